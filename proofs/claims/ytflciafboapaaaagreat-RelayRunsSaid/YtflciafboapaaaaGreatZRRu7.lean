/- Models and proofs. Conditions: none. -/
import Derived.Test.YtflciafboapaaaaGreatZRRu2
import Derived.Test.YtflciafboapaaaaGreatZRRu6
import Derived.Test.YtflciafboapaaaaGreatZRRu5
set_option linter.unusedVariables false
set_option linter.unusedSimpArgs false
set_option maxHeartbeats 4000000
set_option maxRecDepth 20000
namespace Go.Proofs.YtflciafboapaaaaGreat
open Go.Sx
def iR (U:Nat) (a:NS) (b:bO) (c:Int) (d:fL):Option (Int):=
 Option.bind (cN U ((((((a.1.1,a.1.2.1,a.1.2.2)),((a.2.1.1,a.2.1.2)),a.2.2.1,a.2.2.2)),b,c,d)) (0:Int) (-1:Int)) λe=>(some (e.1))
theorem TT:bB Tryz.prog 172:=Tryz.call172
theorem AQ (U:Nat) {d:NS} {s:bO} {f:Int} {t:fL} (a:Nat) (m n o p:V0) (u:lE) (q:V0) (v:kD) (e:V0) (y:kD) (b:V0) (r:Int) (h:iR U d s f t=some r):
  bD Tryz.prog 172 #[vP a,e,vI (f),b] [bL a [vS (d.1.1),m,n,o,p,vI (d.2.2.1),q] 206,Sl aH m d.1.2.1,Sl aE n d.1.2.2,Sl aN o d.2.1.1,S2 aX p u d.2.1.2,S2 aN q v d.2.2.2,S2 aN e y s,Sl aX b t] (λx:Unit=>vI (r)) (λx l=>l) (λ_ l=>l):=by
 refine bD.of Tryz.func172 Z Tryz.ntmps172 Z λc=>?_;refine aU<|aC Z<|aO<|aU<|aA Z<|aA Z<|aA Z<|aA Z<|bF (vM (Ja Z)) λg=>bF (Know.one ((ED Z))) λi=>?_;refine aB (WF (r:=Value.agg #[Value.pointer (some ⟨a,0,none⟩),e,vI (f),b]) Z Z Z Z (by intro w;simp[Instr.build,Instr.fill,eZ,eF,dO,e_,fC,eG,fR,iY g,iY i])) Z ?_;refine aK (aP.alloc (cs:=[Value.pointer none,cT,vI (0:Int),cT]) Z Z) Z λz=>bF (vM (Ja Z)) λj=>bF (Know.one ((ED Z))) λk=>cG 0 (vs:=[vP a,e,vI (f),b]) Z Z (gJ Z (gJ j (gJ Z (gJ k Z)))) Z Z Z<|aO<|aU<|eT h λA B h=>aK (zBg Dl (Gf U z a m n o p u q v e y b A B) Z (aI.cons (aF.res 0 Z) (iN [0,1,2,3,4,5,6,7] Z))) Z λC=>aA Z<|jJ Z<|jJ Z<|aC Z<|aC Z<|aO<|aU<|aA Z<|aC Z<|aO<|aR ?_;cases h;exact nH Z
def lX (U:Nat) (a:NS) (c:bO) (d b:Int):Option Bool:=
 ck (0<=b/\b<(a.1.2.2.length:Int)) (Option.bind (iR U ((((a.1.1,a.1.2.1,a.1.2.2)),((a.2.1.1,a.2.1.2)),a.2.2.1,a.2.2.2)) c d ((at' a.1.2.2 b).2.1.2)) λe=>(some (decide (e≠(0:Int)))))
theorem aah:bB Tryz.prog 165:=Tryz.call165
theorem FB (U:Nat) {a:NS} {n:bO} {o e:Int} (b:Nat) (f g i j:V0) (p:lE) (k:V0) (q:kD) (m:V0) (s:kD) (r:Bool) (h:lX U a n o e=some r):
  bD Tryz.prog 165 #[vP b,m,vI (o),vI (e)] [bL b [vS (a.1.1),f,g,i,j,vI (a.2.2.1),k] 206,Sl aH f a.1.2.1,Sl aE g a.1.2.2,Sl aN i a.2.1.1,S2 aX j p a.2.1.2,S2 aN k q a.2.2.2,S2 aN m s n] (λx:Unit=>vB (r)) (λx l=>l) (λ_ l=>l):=by
 refine bD.of Tryz.func165 Z Tryz.ntmps165 Z λc=>?_;refine aU<|aC Z<|aO<|aU<|aA Z<|aA Z<|aA Z<|aA Z<|aB (bX Z) Z<|bU Z<|bU Z<|aB (fZ Z (cA Z) Z Z Z) Z<|aA Z<|cU h λd h=>aB (bE Z Z (yP Z) Z Z d) Z<|aB (cZ Z Z Z Z Z) Z<|aB (eL Z (yP Z) Z Z Z tE d) Z<|eT h λt u h=>aK (zBg TT (AQ U b f g i j p k q m s ((at' a.1.2.2 e).2.1.1) t u) Z (aI.cons (cA Z) (aI.cons (mM Z) (aI.cons (yP Z) (aI.cons (Dh Z) (aI.cons (Ek Z) (aI.cons (Di Z) (aI.cons (Ja Z) (aI.cons (jW (yP Z) tG d.1 d.2) .nil))))))))) Z λv=>k_ Z<|aC Z<|aO<|aR ?_;cases h;exact iZ Z
def oV (a:Unit):Option (Int):=
 some (-1:Int)
def lV (U:Nat) (a:VW) (d:bO) (e b:Int) (c:(Int)->Option (Int)):Option (Int):=
 if b<(a.1.2.2.length:Int)then(Option.bind (lX U ((((a.2.1.1.1,a.2.1.1.2.1,a.2.1.1.2.2)),((a.2.1.2.1.1,a.2.1.2.1.2)),a.2.1.2.2.1,a.2.1.2.2.2)) d e b) λf=>(if f=true then(some (b))else(c (wI .i64 (b+(1:Int))))))else(oV (()))
def kQ (U:Nat) (a:VW) (b:bO) (c:Int):Option (Int):=
 bJ (lV U a b c) U (0:Int)
theorem ZU:bB Tryz.prog 102:=Tryz.call102
theorem Gh (U:Nat) {p0:VW} {p1:bO} {p2:Int} (b:Nat) (v w:V0) (d:Nat) (k m n o:V0) (y:lE) (p:V0) (f:kD) (e:V0) (s:lE) (a:V0) (g:kD) (r:Int) (h:kQ U p0 p1 p2=some r):
  bD Tryz.prog 102 #[vP b,a,vI (p2)] [bL b [vS (p0.1.1),v,w,vP d,e] 157,Sl aH v p0.1.2.1,Sl aE w p0.1.2.2,bL d [vS (p0.2.1.1.1),k,m,n,o,vI (p0.2.1.2.2.1),p] 206,Sl aH k p0.2.1.1.2.1,Sl aE m p0.2.1.1.2.2,Sl aN n p0.2.1.2.1.1,S2 aX o y p0.2.1.2.1.2,S2 aN p f p0.2.1.2.2.2,S2 aX e s p0.2.2,S2 aN a g p1] (λx:Unit=>vI (r)) (λx l=>l) (λ_ l=>l):=by
 refine bD.of Tryz.func102 Z Tryz.ntmps102 Z λc=>?_;unfold kQ at h;refine aU<|aC Z<|aO<|aL<|eR (λi=>oV i=some r) (λi t=>[]) (λi t=>[]) ?_ ?_
 ·refine aU<|aA Z<|aB (bX Z) Z<|bU Z<|bU Z<|aB (fZ Z (cA Z) Z Z Z) Z<|iH (yP Z) Z<|aA Z<|aO<|aS<|fI (lV U p0 p1 p2) (λj u=>[(0,vP b),(1,a),(2,vI (p2)),(13,vI (p0.1.2.2.length:Int)),(14,vI (j))]) (λj u=>[]) (0:Int) () h SF (aZ.refl _) ?_;intro B j u h;refine aU<|cV Z<|aO<|aL ?_;refine eN h Z (λh=>?_) λh=>?_
  ·refine cL<|aL<|aS<|aU<|aA Z<|aC Z<|aO<|aU<|aA Z<|aB (bX Z) Z<|bU Z<|aB (fZ Z (cA Z) Z Z Z) Z<|aA Z<|aA Z<|aA Z<|eT h λz q h=>aK (zBg aah (FB U d k m n o y p f a g z q) Z (iN [3,4,5,6,7,8,10] Z)) Z λA=>aO ?_;refine tC h Z (λ_ h=>?_) λ_ h=>?_
   ·refine aU<|aA Z<|aC Z<|aO<|aR<|bI<|aG<|aG<|bI<|aG ?_;cases h;exact iZ Z
   refine eM<|lL<|aQ<|cP Z<|aA Z<|aO ?_;exact xY (wI .i64 (j+(1:Int))) () h SF Z
  refine fG ?_;exact fT () (()) h SF Z
 intro i t h;unfold oV at h;refine aU<|aC Z<|aO<|aR ?_;cases h;exact iZ Z
def xI (d:Int) (a:gK) (b:Int) (c:Bool):Option (Int):=
 if c=true then(some (b))else(if d=(3:Int)then(some (-1:Int))else(if b<a.1 then(some (a.1))else(some (a.2))))
def zG (U:Nat) (c:Int) (a:gK) (b:Int):Option (Int):=
 if a.1<=b then(xI c a b (decide (b<=a.2)))else(xI c a b (false))
theorem aal:bB Tryz.prog 173:=Tryz.call173
theorem Mc (U:Nat) {e:Int} {a:gK} {d:Int} (r:Int) (h:zG U e a d=some r):
  bD Tryz.prog 173 #[vI (e),Value.agg #[vI (a.1),vI (a.2)],vI (d)] [] (λx:Unit=>vI (r)) (λx l=>l) (λ_ l=>l):=by
 refine bD.of Tryz.func173 Z Tryz.ntmps173 Z λc=>?_;refine aU<|aK (aP.box (cs:=[vI (a.1),vI (a.2)]) Z Z) Z λf=>aC Z<|aO<|aL<|aS<|aL<|eR (λb=>xI e a d b=some r) (λb g=>[(0,vI (e)),(2,vI (d)),(4,vP f),(7,vB (b))]) (λb g=>[bL f [vI (a.1),vI (a.2)] 138]) ?_ ?_
 ·refine aQ<|aA Z ?_;refine aB (pY (i:=0) Z Z Z Z Z (by decide)) Z ?_;refine dQ 0 Z<|aB (yV Z Z) Z<|aA Z ?_;refine BZ h Z (λ_ h=>?_) λ_ h=>?_
  ·refine dC Z ?_;refine aT Z (pY (i:=1) Z Z Z Z Z (by decide)) Z ?_;refine aT Z (dL 0 Z Z Z Z Z) Z<|aT Z (Cp Z Z) Z<|dR Z<|aC Z<|aO ?_;exact fT (decide (d<=a.2)) () h SF Z
  refine aM Z<|aM Z<|aM Z<|aM Z<|eV Z<|aC Z<|aO ?_;exact fT (false) () h SF Z
 intro b g h;refine tC h Z (λ_ h=>?_) λ_ h=>?_
 ·refine aU<|aA Z<|aC Z<|aO<|aR<|bI<|aG ?_;cases h;exact nH Z
 refine aU<|aA Z<|cC Z<|aC Z<|aO ?_;refine eN h Z (λh=>?_) λh=>?_
 ·refine aU<|aC Z<|aO<|aR<|bI<|aG ?_;cases h;exact nH Z
 refine aU<|aA Z ?_;refine aB (pY (i:=0) Z Z Z Z Z (by decide)) Z ?_;refine dQ 0 Z<|cV Z<|aC Z<|aO ?_;refine eN h Z (λh=>?_) λh=>?_
 ·refine aU ?_;refine aB (pY (i:=0) Z Z Z Z Z (by decide)) Z ?_;refine dQ 0 Z<|aC Z<|aO<|aR<|bI<|aG ?_;cases h;exact nH Z
 refine eM<|lL<|aU ?_;refine aB (pY (i:=1) Z Z Z Z Z (by decide)) Z ?_;refine dQ 0 Z<|aC Z<|aO<|aR ?_;cases h;exact nH Z
def oU (a:bQ):Option bQ:=
 some (a)
def lU (U:Nat) (b:VW) (h:bO) (d c:Int) (a:Int×bQ) (e:(Int×bQ)->Option bQ):Option bQ:=
 if a.1<(((at' b.1.2.2 c).2.2.2).length:Int)then(ck (0<=a.1/\a.1<(((at' b.1.2.2 c).2.2.2).length:Int)) (Option.bind (iR U ((((b.2.1.1.1,b.2.1.1.2.1,b.2.1.1.2.2)),((b.2.1.2.1.1,b.2.1.2.1.2)),b.2.1.2.2.1,b.2.1.2.2.2)) h d ((at' ((at' b.1.2.2 c).2.2.2) a.1).2.2)) λf=>(ck (0<=((at' ((at' b.1.2.2 c).2.2.2) a.1).1)/\((at' ((at' b.1.2.2 c).2.2.2) a.1).1)<(b.1.2.1.length:Int)) (ck (0<=d/\d<(b.2.2.length:Int)) (ck (0<=((at' ((at' b.1.2.2 c).2.2.2) a.1).1)/\((at' ((at' b.1.2.2 c).2.2.2) a.1).1)<((at' b.2.2 d).length:Int)) (Option.bind (zG U ((at' b.1.2.1 ((at' ((at' b.1.2.2 c).2.2.2) a.1).1)).2.1) ((((at' (at' b.2.2 d) ((at' ((at' b.1.2.2 c).2.2.2) a.1).1)).1),((at' (at' b.2.2 d) ((at' ((at' b.1.2.2 c).2.2.2) a.1).1)).2))) f) λg=>(ck (0<=((at' ((at' b.1.2.2 c).2.2.2) a.1).1)/\((at' ((at' b.1.2.2 c).2.2.2) a.1).1)<(a.2.length:Int)) (e ((wI .i64 (a.1+(1:Int))),(List.set a.2 (Int.toNat ((at' ((at' b.1.2.2 c).2.2.2) a.1).1)) g))))))))))else(oU (a.2))
def mN (U:Nat) (d:VW) (b:bO) (a c:Int):Option bQ:=
 ck (0<=a/\a<(b.length:Int)) (ck ((List.length ([]:bQ):Int)+((at' b a).length:Int)<=1099511627) (ck (0<=c/\c<(d.1.2.2.length:Int)) (bJ (lU U d b a c) U ((0:Int),(([]:bQ)++(at' b a))))))
theorem aac:bB Tryz.prog 123:=Tryz.call123
theorem Gg (U:Nat) {p0:VW} {p1:bO} {p2 n:Int} (i:Nat) (O P:V0) (j:Nat) (E F G H:V0) (Q:lE) (I:V0) (A:kD) (y:V0) (M:lE) (g:V0) (B:kD) (r:bQ) (h:mN U p0 p1 p2 n=some r):
  bD Tryz.prog 123 #[vP i,g,vI (p2),vI (n)] [bL i [vS (p0.1.1),O,P,vP j,y] 157,Sl aH O p0.1.2.1,Sl aE P p0.1.2.2,bL j [vS (p0.2.1.1.1),E,F,G,H,vI (p0.2.1.2.2.1),I] 206,Sl aH E p0.2.1.1.2.1,Sl aE F p0.2.1.1.2.2,Sl aN G p0.2.1.2.1.1,S2 aX H Q p0.2.1.2.1.2,S2 aN I A p0.2.1.2.2.2,S2 aX y M p0.2.2,S2 aN g B p1] (λx:V0=>x) (λx l=>Ar fW x r::l) (λ_ l=>l):=by
 let k:=(at' p0.1.2.2 n)
 refine bD.of Tryz.func123 Z Tryz.ntmps123 Z λc=>?_;refine aU<|aC Z<|aO<|aU<|aA Z<|aA Z<|cU h λC h=>aB (bN Z Z (FZ Z) Z Z C) Z<|aB (bT Z (FZ Z) Z Z C) Z<|bW (eX fW)<|cU h λS h=>aK (dN 0 jA Z Z Z (zBh (FZ Z) C.1 C.2) Z Z Z Z S Z) Z λw=>aC Z<|aO<|aL<|eR (λo=>oU o=some r) (λo N=>[(9,w)]) (λo N=>[Ar fW w o]) ?_ ?_
 ·refine aU<|aA Z<|aB (bX Z) Z<|bU Z<|bU Z<|aB (fZ Z (cA Z) Z Z Z) Z<|aA Z<|cU h λe h=>aB (bE Z Z (yP Z) Z Z e) Z<|aB (cZ Z Z Z Z Z) Z<|aB (eL Z (yP Z) Z Z Z tF e) Z<|aB (fE Z (jW (yP Z) cQ e.1 e.2) Z) Z<|aA Z<|aO<|aS<|fI (lU U p0 p1 p2 n) (λa p=>[(0,vP i),(1,g),(2,vI (p2)),(9,w),(26,k.2.2.1),(27,vI ((k.2.2.2).length:Int)),(28,vI (a.1))]) (λa p=>[Ar fW w a.2]) ((0:Int),(([]:bQ)++(at' p1 p2))) () h SF (aZ.refl _) ?_;intro T a p h;let f:=(at' (k.2.2.2) a.1)
  let v:=(at' (at' p0.2.2 p2) (f.1))
  refine aU<|cV Z<|aO<|aL ?_;refine eN h Z (λh=>?_) λh=>?_
  ·refine cL<|aL<|aS<|aU<|cU h λb h=>aB (bE Z Z (jW (yP Z) cQ e.1 e.2) Z Z b) Z<|aB (Sj (cs:=[vI (f.1),f.2.1]) Z (jW (yP Z) cQ e.1 e.2) MA Z Z Z Z b) Z<|aK (aP.alloc (cs:=[vI (0:Int),cT]) Z Z) Z λR=>bF (Know.one ((jW (jW (yP Z) cQ e.1 e.2) Ca b.1 b.2))) λq=>cG 0 (vs:=[vI ((at' ((at' p0.1.2.2 n).2.2.2) a.1).1),(at' ((at' p0.1.2.2 n).2.2.2) a.1).2.1]) Z Z (gJ Z (gJ q Z)) Z Z Z<|aO<|aL ?_;refine sW [0,1,3,7,0,0,0,64,255,511] 8 mixedOrders ?_;refine aV Z<|gC Z (bX Z)<|cH Z<|aY Z .nil (fN 0 Z) (fZ Z (cA Z) Z Z Z) aJ.z<|aV Z<|aV Z<|cH Z<|fO 0 Z<|bP 8 Z Z<|eT h λD J h=>aK (zBg TT (AQ U j E F G H Q I A g B (f.2.1) D J) Z (aI.cons (Dh Z) (aI.cons (Ek Z) (aI.cons (Di Z) (aI.cons (Ja Z) (aI.cons (ED Z) (aI.cons (aF.fact 8 Z) (aI.cons (FZ Z) (aI.cons (jW (jW (yP Z) cQ e.1 e.2) Ca b.1 b.2) .nil))))))))) Z λV=>aC Z<|aO ?_;refine sW [0,0,2,0,8,24,56,120,0,256,1016,2040,4088,0,8192,24576,57344,0,253952,516096,0,1048576,4186112,8380416,0,33554424,67108863,134217727] 26 mixedOrders ?_;refine aV Z<|cH Z<|fO 0 Z<|aV Z<|gC Z (bX Z)<|cH Z<|cH Z<|aY Z .nil (fN 0 Z) (fZ Z (cA Z) Z Z Z) aJ.z<|cH Z<|fO 0 Z<|cU h λs h=>aY Z .nil (fN 1 Z) (bE Z Z (cA Z) Z Z s) aJ.z<|gC Z (cZ Z Z Z Z Z)<|aY Z .nil (fN 1 Z) (eL Z (cA Z) Z Z Z lR s) aJ.z<|aV Z<|gC Z (bX Z)<|cH Z<|aY Z .nil (fN 0 Z) (fZ Z (cA Z) Z Z Z) aJ.z<|aV Z<|cU h λd h=>aY Z .nil (fN 9 Z) (bN Z Z (cA Z) Z Z d) aJ.z<|aY Z .nil (fN 9 Z) (bT Z (cA Z) Z Z d) aJ.z<|cH Z<|fO 0 Z<|cU h λt h=>aY Z .nil (fN 9 Z) (bE Z Z (zBh (cA Z) d.1 d.2) Z Z t) aJ.z<|aY Z .nil (fN 9 Z) (gU (cs:=[vI (v.1),vI (v.2)]) Z (zBh (cA Z) d.1 d.2) cW Z Z Z Z t) aJ.z<|aV Z<|eT h λm K h=>zBi Z Z Z (zBg aal (Mc U m K) Z .nil) Z (λL=>(mC [([0],[])] Z)) λL=>bP 26 Z Z<|cU h λu h=>aB (bE Z Z (cB (aF.res 1 Z) jA) Z Z u) Z<|Le 1 m u Z Z Z Z Z Z Z<|fJ<|lL<|aQ<|cP Z<|aA Z<|aO ?_;exact iG ((wI .i64 (a.1+(1:Int))),(List.set a.2 (Int.toNat (f.1)) m)) () h SF (aZ.ix [1] Z Z) (aI.refl _ _)
  refine fG ?_;exact fT (a.2) () h SF Z
 intro o N h;unfold oU at h;refine aU<|aA Z<|aC Z<|aO<|aR ?_;cases h;exact iS (w) Z Z (RV.tmp Z) (aZ.refl _) aI.nil
end Go.Proofs.YtflciafboapaaaaGreat
namespace Go.Proofs.YtflciafboapaaaaGreat
open Go Go.Sx
abbrev RL:=E×List (Nat×E)
abbrev MG:=Fz×GR×Int×bO
def FQ (R:List RL):Rs:=R.map λr=>(r.1.ts,r.2.map λs=>((s.1:Int),s.2.ts))
def Kb (a:Nat) (e:E):Bool:=e.wf a false&&decide (e.depth<=100)&&decide (e.ts.length<=800)
def pA (a:Nat) (R:List RL):Bool:=decide (R.length<=20)&&R.all λr=>Kb a r.1&&decide (r.2.length<=20)&&r.2.all λs=>decide (s.1<a)&&Kb a s.2
instance:Inhabited E:=⟨.lf 1 0⟩
def TL (g:GR) (v i:Nat):Int:=Bg (row g (jP (row g v) i).1.toNat) (v:Int)
def lP (g:GR):bO:=(List.range g.2.length).map λv=>(List.range (row g v).length).map (TL g v)
def Dn (S:MG) (c:bO) (v:Nat) (e:E):Int:=e.den (OU (S,c,(v:Int),[])) (row S.2.1 v).length (-1)
def AP (S:MG) (R:List RL) (c:bO) (v:Nat):Int:=h_ (R.map λr=>Dn S c v r.1)
def FK (a:Int) (b:gK) (x:Int):Int:=if b.1<=x/\x<=b.2 then x else if a=3 then -1 else if x<b.1 then b.1 else b.2
def Kv (S:MG) (a:List D_) (c:bO) (v:Nat) (b:bQ) (s:Nat×E):bQ:=b.set s.1 (FK (at' a (s.1:Int)).2.1 (qF S.2.1 a v s.1) (Dn S c v s.2))
def NK (S:MG) (a:List D_) (R:List RL) (c:bO) (v:Nat) (i:Int):bQ:=(at' R i).2.foldl (Kv S a c v) (at' c (v:Int))
structure JU (g:GR) (nv:Nat) (c:bO):Prop where
 len:c.length=g.2.length
 row:∀v:Nat,v<g.2.length->(at' c (v:Int)).length=nv
theorem Wc.shape {g:GR} {c:bO} {a:List D_} (h:Wc g c a):JU g a.length c:=⟨h.len,h.row⟩
section
variable {S:MG} {nv:Nat} {c:List (List Int)} {v:Nat}
theorem wok (b:S.2.2.2=lP S.2.1) (d:VG S.2.1) (e:JU S.2.1 nv c) (h:v<S.2.1.2.length) (j:List (Int×Int)):WOk (S,c,(v:Int),j) nv S.2.1.2.length v:=by
 refine⟨rfl,h,rfl,d.len,e.len,e.row,λu a i g=> ?_,by show S.2.2.2.length=_;rw[b];simp[lP],λu a=>by
  show(at' S.2.2.2 (u:Int)).length=_;rw[b,lP,Eu _ a,List.length_map,List.length_range]⟩
 obtain⟨w,k,f⟩:=d.to a g;show 0<=(jP (row S.2.1 u) i).1/\(jP (row S.2.1 u) i).1<_;rw[f];omega
theorem RD (i:S.2.2.2=lP S.2.1) (a:VG S.2.1) (j:JU S.2.1 nv c) (f:v<S.2.1.2.length) {e:E} (b:Kb nv e=true):iR 1000 S c (v:Int) e.ts=some (Dn S c v e):=by
 simp only[Kb,zA6,zAa]at b;have g:=a.n24;have d:=(a.node v f).deg;unfold iR;have:=Zt (wok i a j f e.ts) (deg:=(row S.2.1 v).length) Z (by omega) b.2 e false 1000 0 (-1) [] [] (by simp) Z b.1.1 (λh=>by cases h) (by omega);rw[bG (show cN 1000 _ (0:Int) (-1)=_ from this)];rfl
end
section
variable {p:Fz} {g:GR} {gr:Int} {R:List RL} {nv:Nat} {c:List (List Int)} {v:Nat}
theorem Et (a:p.2.2.map AE=FQ R):p.2.2.length=R.length:=by simpa [FQ]using congrArg List.length a
theorem KU (b:p.2.2.map AE=FQ R) {i:Nat} (a:i<R.length):AE (at' p.2.2 (i:Int))=((at' R (i:Int)).1.ts,(at' R (i:Int)).2.map λs=>((s.1:Int),s.2.ts)):=by
 have d:=Et b;have:=congrArg (λq=>q[i]?) b;simp only[FQ,List.getElem?_map,zA2 a,zA2 (show i<p.2.2.length by omega),Option.map_some,Option.some.injEq]at this;rw[jS a,jS (show i<p.2.2.length by omega)];exact this
theorem KW (a:pA nv R=true) {i:Nat} (b:i<R.length):Kb nv (at' R (i:Int)).1=true/\(at' R (i:Int)).2.length<=20/\∀s∈(at' R (i:Int)).2,s.1<nv/\Kb nv s.2=true:=by
 simp only[pA,zA6,zA8,zAa]at a;have:=a.2 (at' R (i:Int)) (by rw[jS b];exact zBe b);exact⟨this.1.1,this.1.2,λs d=>this.2 s d⟩
theorem Uz (a:pA nv R=true):R.length<=20:=by
 simp only[pA,zA6,zAa]at a;exact a.1
theorem XO (f:VG g) (h:JU g nv c) (j:v<g.2.length) (b:p.2.2.map AE=FQ R) (d:pA nv R=true) {i:Nat} (a:i<R.length):lX 1000 (p,g,gr,lP g) c (v:Int) (i:Int)=some (nz (Dn (p,g,gr,lP g) c v (at' R (i:Int)).1)):=by
 have k:=Et b;have e:(at' p.2.2 (i:Int)).2.1.2=(at' R (i:Int)).1.ts:=congrArg Prod.fst (KU b a);unfold lX;dsimp only;rw[cF (by omega),e];rw[bG (show iR 1000 _ c (v:Int) _=_ from RD (S:=(p,g,gr,lP g)) Z f h j (KW d a).1)];rfl
theorem abx (z:VG g) (A:JU g nv c) (C:v<g.2.length) (w:p.2.2.map AE=FQ R) (s:pA nv R=true) (h:List (List (Int×Int))):kQ 1000 (p,(p,g,gr,lP g),h) c (v:Int)=some (AP (p,g,gr,lP g) R c v):=by
 have E:=Et w;have y:=Uz s;let l:=R.map λr=>Dn (p,g,gr,lP g) c v r.1;have B:l.length=R.length:=by simp[l]
 have o:∀i,i<R.length->at' l (i:Int)=Dn (p,g,gr,lP g) c v (at' R (i:Int)).1:=λi t=>by
  rw[jS (by omega),jS t];simp[l]
 have b:∀(k:Nat) a,k<R.length->lV 1000 (p,(p,g,gr,lP g),h) c (v:Int) (k:Int) a=if nz (at' l (k:Int))=true then some (k:Int)else a (((k+1:Nat):Int)):=by
  intro k a d;unfold lV;dsimp only;rw[if_pos (by omega),bG (show lX 1000 _ c (v:Int) (k:Int)=_ from XO z A C w s d),o k d,dD (by omega)]
 unfold kQ AP;by_cases f:∃i,i<R.length/\at' l (i:Int)≠0
 ·obtain⟨i,t,x⟩:=f;obtain⟨m,D,q,n⟩:=NG (p:=λi=>at' l (i:Int)≠0) i x;have n:∀j,j<m->at' l (j:Int)=0:=λj u=>zAx.1 (n j u);rw[show h_ _=(m:Int)from Dq (l:=l) (by omega) q n];exact dJ (K:=some (m:Int)) m (λk=>(k:Int)) (λk a d=>by rw[b k a (by omega),if_neg (by simp[nz,n k d])]) (λa=>by rw[b m a (by omega),if_pos (by simpa [nz]using q)]) 1000 (by omega)
 ·have f:∀j,j<l.length->at' l (j:Int)=0:=λj u=>zAx.1 λe=>f ⟨j,by omega,e⟩;rw[show h_ _=(-1:Int)from Dp (l:=l) f];exact dJ (K:=some (-1)) R.length (λk=>(k:Int)) (λk a d=>by rw[b k a d,if_neg (by simp[nz,f k (by omega)])]) (λa=>by
   unfold lV oV;dsimp only;rw[if_neg (by omega)]) 1000 (by omega)
theorem LY (S:MG) (R:List RL) (c:List (List Int)) (v:Nat):AP S R c v = -1\/∃i:Nat,AP S R c v=(i:Int)/\i<R.length/\Dn S c v (at' R (i:Int)).1≠0:=by
 let l:=R.map λr=>Dn S c v r.1;by_cases h:∃i,i<l.length/\at' l (i:Int)≠0
 ·obtain⟨i,n,k⟩:=h;obtain⟨m,o,f,a⟩:=NG (p:=λi=>at' l (i:Int)≠0) i k;have a:∀j,j<m->at' l (j:Int)=0:=λj b=>zAx.1 (a j b);have d:m<R.length:=by simp[l]at n;omega
  refine .inr ⟨m,Dq (l:=l) (by omega) f a,d,?_⟩;have:at' l (m:Int)=Dn S c v (at' R (m:Int)).1:=by rw[jS (by simpa [l]using d),jS d];simp[l]
  rw[<-this];exact f
 ·exact .inl (Dp (l:=l) λj b=>zAx.1 λe=>h ⟨j,b,e⟩)
end
theorem Xf (f:Nat) (k:Int) (b:gK) (x:Int):zG f k b x=some (FK k b x):=by
 unfold zG xI FK;by_cases a:b.1<=x
 ·by_cases c:x<=b.2
  ·simp only[a,c,and_self,if_true,decide_true]
  ·simp only[a,c,and_false,if_true,if_false,decide_false,Bool.false_eq_true];split
   ·rfl
   ·split<;>rfl
 ·simp only[a,false_and,if_false,Bool.false_eq_true];split
  ·rfl
  ·split<;>rfl
theorem Rc {S:MG} {a:List D_} {c:bO} {v:Nat} (l:List (Nat×E)) (b:bQ):(l.foldl (Kv S a c v) b).length=b.length:=by
 induction l generalizing b with
 |nil=>rfl
 |cons s l d=>rw[List.foldl_cons,d];simp[Kv]
section
variable {p:Fz} {g:GR} {gr:Int} {R:List RL} {c:List (List Int)} {v:Nat}
theorem abm (A:VG g) (J:jR g p.2.1) (o:JU g p.2.1.length c) (x:v<g.2.length) (E:p.2.2.map AE=FQ R) (H:pA p.2.1.length R=true) {i:Nat} (B:i<R.length):
  mN 1000 (p,(p,g,gr,lP g),Dc g p.2.1) c (v:Int) (i:Int)=some (NK (p,g,gr,lP g) p.2.1 R c v (i:Int)):=by
 have G:=A.n24;have I:=o.len;have l:=o.row v x;have N:=J.len;have O:=Et E;have r:=KU E B;obtain⟨-,m,d⟩:=KW H B;have D:(Dc g p.2.1).length=g.2.length:=by simp[Dc]
 have w:at' (Dc g p.2.1) (v:Int)=G_ g p.2.1 v:=Eu _ x;have L:(G_ g p.2.1 v).length=p.2.1.length:=by simp[G_]
 have y:(at' p.2.2 (i:Int)).2.2.2.map (λs=>(s.1,s.2.2))=(at' R (i:Int)).2.map λs=>((s.1:Int),s.2.ts):=congrArg Prod.snd r;have n:(at' p.2.2 (i:Int)).2.2.2.length=(at' R (i:Int)).2.length:=by simpa using congrArg List.length y
 unfold mN;dsimp only;rw[cF (by omega),cF (by simp;omega),cF (by omega),zBb];unfold NK;let a:=(at' R (i:Int)).2;have:=dJ (step:=lU 1000 (p,(p,g,gr,lP g),Dc g p.2.1) c (v:Int) (i:Int)) (K:=some (a.foldl (Kv (p,g,gr,lP g) p.2.1 c v) (at' c (v:Int)))) a.length (λk=>((k:Int),(a.take k).foldl (Kv (p,g,gr,lP g) p.2.1 c v) (at' c (v:Int)))) (λk F e=>by
  have j:k<(at' p.2.2 (i:Int)).2.2.2.length:=by rw[n];exact e
  have z:((at' (at' p.2.2 (i:Int)).2.2.2 (k:Int)).1,(at' (at' p.2.2 (i:Int)).2.2.2 (k:Int)).2.2)=(((at' a (k:Int)).1:Int),(at' a (k:Int)).2.ts):=by
   have:=congrArg (λq=>q[k]?) y;simp only[List.getElem?_map,zA2 j,zA2 (show k<(at' R (i:Int)).2.length from e),Option.map_some,Option.some.injEq]at this;rw[jS j,jS e];exact this
  have f:=congrArg Prod.fst z;have h:=congrArg Prod.snd z;dsimp only at f h;obtain⟨t,u⟩:=d (at' a (k:Int)) (by rw[jS e];exact zBe e);have C:((a.take k).foldl (Kv (p,g,gr,lP g) p.2.1 c v) (at' c (v:Int))).length=p.2.1.length:=by rw[Rc,l]
  have b:at' (G_ g p.2.1 v) ((at' a (k:Int)).1:Int)=qF g p.2.1 v (at' a (k:Int)).1:=Eu _ t;have M:a.length<=20:=m;unfold lU;dsimp only;rw[if_pos (by omega),cF (by omega),f,h,bG (show iR 1000 _ c (v:Int) _=_ from RD (S:=(p,g,gr,lP g)) Z A o x u),cF (by omega),cF (by omega),w,cF (by omega),b,bG (Xf 1000 _ _ _),cF (by omega),dD (by omega),zAi,nW e,List.foldl_append];rfl) (λF=>by
  unfold lU oU;dsimp only;rw[if_neg (by show¬(a.length:Int)<_;rw[n];exact Int.lt_irrefl _),zB3]) 1000 (by show(at' R (i:Int)).2.length<1000;omega)
 exact this
end
def eB (p:Fz) (g:GR):MG:=(p,g,jF g g.2.length,lP g)
theorem Ki {a:Type} [Inhabited a] (l:List a) {k:Nat} (h:k<l.length):l.set k (at' l (k:Int))=l:=by
 have:=Fe l (k:Int) (by simpa using h) (by omega);simpa using this
def afg (g:GR) (c:bO) (v i:Nat):Int:=at' (at' c (jP (row g v) i).1) 0
end Go.Proofs.YtflciafboapaaaaGreat
namespace Go.Proofs.YtflciafboapaaaaGreat
open Go.Sx
def zT (b:Int) (a:Bool):Option (Int):=
 if a=true then(some (2:Int))else(if b=(43:Int)then(some (3:Int))else(some (-1:Int)))
def zS (a:Int) (b:Bool):Option (Int):=
 if b=true then(some (1:Int))else(if(30:Int)<=a then(zT a (decide (a<=(42:Int))))else(zT a (false)))
def zR (a:Int) (b:Bool):Option (Int):=
 if b=true then(some (0:Int))else(if(18:Int)<=a then(zS a (decide (a<=(29:Int))))else(zS a (false)))
def nP (U:Nat) (a:Int):Option (Int):=
 if(1:Int)<=a then(zR a (decide (a<=(17:Int))))else(zR a (false))
theorem OB:bB Tryz.prog 200:=Tryz.call200
theorem DY (U:Nat) {b:Int} (r:Int) (h:nP U b=some r):
  bD Tryz.prog 200 #[vI (b)] [] (λx:Unit=>vI (r)) (λx l=>l) (λ_ l=>l):=by
 refine bD.of Tryz.func200 Z Tryz.ntmps200 Z λc=>?_;refine aU<|aC Z<|aO<|aL<|aS<|aL<|eR (λd=>zR b d=some r) (λd g=>[(0,vI (b)),(3,vB (d))]) (λd g=>[]) ?_ ?_
 ·refine aQ<|aA Z<|aB (yV Z Z) Z<|aA Z ?_;refine BZ h Z (λ_ h=>?_) λ_ h=>?_
  ·refine dC Z<|aT Z (Cp Z Z) Z<|dR Z<|aC Z<|aO ?_;exact fT (decide (b<=(17:Int))) () h SF Z
  refine aM Z<|aM Z<|eV Z<|aC Z<|aO ?_;exact fT (false) () h SF Z
 intro d g h;refine tC h Z (λ_ h=>?_) λ_ h=>?_
 ·refine aU<|aC Z<|aO<|aR<|bI<|aG ?_;cases h;exact iZ Z
 refine aL<|eR (λe=>zS b e=some r) (λe i=>[(0,vI (b)),(10,vB (e))]) (λe i=>[]) ?_ ?_
 ·refine aQ<|aA Z<|aB (yV Z Z) Z<|aA Z ?_;refine BZ h Z (λ_ h=>?_) λ_ h=>?_
  ·refine dC Z<|aT Z (Cp Z Z) Z<|dR Z<|aC Z<|aO ?_;exact fT (decide (b<=(29:Int))) () h SF Z
  refine aM Z<|aM Z<|eV Z<|aC Z<|aO ?_;exact fT (false) () h SF Z
 intro e i h;refine tC h Z (λ_ h=>?_) λ_ h=>?_
 ·refine aU<|aC Z<|aO<|aR<|bI<|aG ?_;cases h;exact iZ Z
 refine aL<|eR (λa=>zT b a=some r) (λa f=>[(0,vI (b)),(17,vB (a))]) (λa f=>[]) ?_ ?_
 ·refine aQ<|aA Z<|aB (yV Z Z) Z<|aA Z ?_;refine BZ h Z (λ_ h=>?_) λ_ h=>?_
  ·refine dC Z<|aT Z (Cp Z Z) Z<|dR Z<|aC Z<|aO ?_;exact fT (decide (b<=(42:Int))) () h SF Z
  refine aM Z<|aM Z<|eV Z<|aC Z<|aO ?_;exact fT (false) () h SF Z
 intro a f h;refine tC h Z (λ_ h=>?_) λ_ h=>?_
 ·refine aU<|aC Z<|aO<|aR<|bI<|aG ?_;cases h;exact iZ Z
 refine aU<|aA Z<|cC Z<|aC Z<|aO ?_;refine eN h Z (λh=>?_) λh=>?_
 ·refine aU<|aC Z<|aO<|aR<|bI<|aG ?_;cases h;exact iZ Z
 refine eM<|lL<|aU<|aC Z<|aO<|aR ?_;cases h;exact iZ Z
def tP (a:Int):Option (Int):=
 some (a)
def tQ (c:cO) (a:gK) (b:i_->Option (Int)):Option (Int):=
 if a.2<(c.1.length:Int)then(ck (0<=a.2/\a.2<(c.1.length:Int)) (b ((max a.1 (at' c.1 a.2)),(wI .i64 (a.2+(1:Int))))))else(tP (a.1))
def jL (U:Nat) (a:cO):Option (Int):=
 bJ (tQ a) U ((0:Int),(0:Int))
theorem TQ:bB Tryz.prog 164:=Tryz.call164
theorem Ey (U:Nat) {e:cO} (f g:V0) (n:lE) (r:Int) (h:jL U e=some r):
  bD Tryz.prog 164 #[Value.agg #[f,g]] [Sl aN f e.1,S2 aX g n e.2] (λx:Unit=>vI (r)) (λx l=>l) (λ_ l=>l):=by
 refine bD.of Tryz.func164 Z Tryz.ntmps164 Z λc=>?_;unfold jL at h;refine aU<|aK (aP.box (cs:=[f,g]) Z Z) Z λi=>aC Z<|aO<|aU<|aC Z<|aO<|aL<|eR (λb=>tP b=some r) (λb j=>[(3,vI (b))]) (λb j=>[]) ?_ ?_
 ·refine aU<|aC Z<|aO<|aS<|fI (tQ e) (λa k=>[(1,vP i),(3,vI (a.1)),(4,vI (a.2))]) (λa k=>[bL i [f,g] 31]) ((0:Int),(0:Int)) () h SF (aZ.refl _) ?_;intro m a k h;refine aL<|aU<|aA Z<|bU Z<|dQ 0 Z<|iH (cA Z) Z<|cV Z<|aO ?_;refine eN h Z (λh=>?_) λh=>?_
  ·refine cL<|aL<|aS<|aQ<|aA Z<|bU Z<|dQ 0 Z<|aA Z<|cU h λd h=>aB (bE Z Z (cA Z) Z Z d) Z<|aB (cK Z (cA Z) Z Z Z eY d) Z<|aB (Hj Z Z) Z<|aC Z<|fJ<|lL<|aQ<|aA Z<|cP Z<|aC Z<|aO ?_;exact xY ((max a.1 (at' e.1 a.2)),(wI .i64 (a.2+(1:Int)))) () h SF Z
  refine fG ?_;exact cI (a.1) () h SF .nil (aI.refl _ _)
 intro b j h;unfold tP at h;refine aU<|aA Z<|aC Z<|aO<|aR ?_;cases h;exact iZ Z
def dZ (U:Nat) (a:Bool):Option (Int):=
 if a=true then(some (1:Int))else(some (0:Int))
theorem rR:bB Tryz.prog 223:=Tryz.call223
theorem gO (U:Nat) {a:Bool} (r:Int) (h:dZ U a=some r):
  bD Tryz.prog 223 #[vB (a)] [] (λx:Unit=>vI (r)) (λx l=>l) (λ_ l=>l):=by
 refine bD.of Tryz.func223 Z Tryz.ntmps223 Z λc=>?_;refine aU<|aC Z<|aO<|aL<|aU<|aA Z<|aO ?_;refine tC h Z (λ_ h=>?_) λ_ h=>?_
 ·refine aU<|aC Z<|aO<|aR<|aG ?_;cases h;exact iZ Z
 refine cL<|aU<|aC Z<|aO<|aR ?_;cases h;exact iZ Z
def Iz (U:Nat) (a:cO) (d b c:Int):Option (Int):=
 if d=(6:Int)then(some (a.2.length:Int))else(if d=(7:Int)then(Option.bind (jL U ((a.1,a.2))) λh=>(some (h)))else(if d=(8:Int)then(ck (0<=b/\b<(a.1.length:Int)) (some (at' a.1 b)))else(if d=(9:Int)then(ck (0<=b/\b<(a.2.length:Int)) (some ((at' a.2 b).length:Int)))else(if d=(10:Int)then(Option.bind (dZ U (decide (b=(0:Int)))) λe=>(some (e)))else(if d=(11:Int)then(some (c))else(ck (0<=b/\b<(a.2.length:Int)) (ck (0<=c/\c<((at' a.2 b).length:Int)) (if d=(13:Int)then(ck (0<=((at' (at' a.2 b) c).1)/\((at' (at' a.2 b) c).1)<(a.1.length:Int)) (some (at' a.1 ((at' (at' a.2 b) c).1))))else(if d=(14:Int)then(ck (0<=((at' (at' a.2 b) c).1)/\((at' (at' a.2 b) c).1)<(a.2.length:Int)) (some ((at' a.2 ((at' (at' a.2 b) c).1)).length:Int)))else(if d=(15:Int)then(Option.bind (dZ U (decide (((at' (at' a.2 b) c).1)=(0:Int)))) λf=>(some (f)))else(if d=(16:Int)then(ck (0<=b/\b<(a.2.length:Int)) (ck (0<=c/\c<((at' a.2 b).length:Int)) (some ((at' (at' a.2 b) c).2))))else(Option.bind (rW U ((a.1,a.2)) ((at' (at' a.2 b) c).1) b) λg=>(some (g))))))))))))))
theorem aau:bB Tryz.prog 222:=Tryz.call222
theorem Pu (U:Nat) {m:cO} {w y z:Int} (j k:V0) (u:lE) (r:Int) (h:Iz U m w y z=some r):
  bD Tryz.prog 222 #[Value.agg #[j,k],vI (w),vI (y),vI (z)] [Sl aN j m.1,S2 aX k u m.2] (λx:Unit=>vI (r)) (λx l=>l) (λ_ l=>l):=by
 refine bD.of Tryz.func222 Z Tryz.ntmps222 Z λc=>?_;refine aU<|aK (aP.box (cs:=[j,k]) Z Z) Z λF=>aC Z<|aO<|aL<|aU<|aA Z<|aO<|aS<|aU<|cC Z<|aC Z<|aO ?_;refine eN h Z (λh=>?_) λh=>?_
 ·refine aU<|bU Z<|dQ 0 Z<|aB (dU Z (mM Z) Z) Z<|aC Z<|aO<|aR<|bI<|aG ?_;cases h;exact nH Z
 refine aU<|cC Z<|aC Z<|aO ?_;refine eN h Z (λh=>?_) λh=>?_
 ·refine aU<|dM 0 Z<|eT h λA B h=>aK (zBg TQ (Ey U j k u A B) Z (iN [0,1] Z)) Z λG=>aC Z<|aO<|aR<|bI<|aG ?_;cases h;exact nH Z
 refine aU<|cC Z<|aC Z<|aO ?_;refine eN h Z (λh=>?_) λh=>?_
 ·refine aU<|bU Z<|dQ 0 Z<|aA Z<|cU h λv h=>aB (bE Z Z (cA Z) Z Z v) Z<|aB (cK Z (cA Z) Z Z Z eY v) Z<|aC Z<|aO<|aR<|bI<|aG ?_;cases h;exact nH Z
 refine aU<|cC Z<|aC Z<|aO ?_;refine eN h Z (λh=>?_) λh=>?_
 ·refine aU<|bU Z<|dQ 0 Z<|aA Z<|cU h λd h=>aB (bN Z Z (mM Z) Z Z d) Z<|aB (bT Z (mM Z) Z Z d) Z<|aB (fE Z (zBh (mM Z) d.1 d.2) Z) Z<|aC Z<|aO<|aR<|bI<|aG ?_;cases h;exact nH Z
 refine aU<|cC Z<|aC Z<|aO ?_;refine eN h Z (λh=>?_) λh=>?_
 ·refine aU<|aA Z<|cC Z<|eT h λn q h=>aK (zBg rR (gO U n q) Z .nil) Z λC=>aC Z<|aO<|aR<|bI<|aG ?_;cases h;exact nH Z
 refine aU<|cC Z<|aC Z<|aO ?_;refine eN h Z (λh=>?_) λh=>?_
 ·refine aU<|aA Z<|aC Z<|aO<|aR<|bI<|aG ?_;cases h;exact nH Z
 refine eM<|lL<|aU<|bU Z<|dQ 0 Z<|aA Z<|cU h λa h=>aB (bN Z Z (mM Z) Z Z a) Z<|aB (bT Z (mM Z) Z Z a) Z<|aA Z<|cU h λf h=>aB (bE Z Z (zBh (mM Z) a.1 a.2) Z Z f) Z<|aB (cZ Z Z Z Z Z) Z<|aB (eL Z (zBh (mM Z) a.1 a.2) Z Z Z gT f) Z<|aC Z<|aO<|aL<|aU<|aA Z<|aO<|aS<|aU<|cC Z<|aC Z<|aO ?_;refine eN h Z (λh=>?_) λh=>?_
 ·refine aU<|bU Z<|dQ 0 Z<|aA Z<|cU h λg h=>aB (bE Z Z (cA Z) Z Z g) Z<|aB (cK Z (cA Z) Z Z Z eY g) Z<|aC Z<|aO<|aR<|bI<|aG ?_;cases h;exact nH Z
 refine aU<|cC Z<|aC Z<|aO ?_;refine eN h Z (λh=>?_) λh=>?_
 ·refine aU<|bU Z<|dQ 0 Z<|aA Z<|cU h λe h=>aB (bN Z Z (mM Z) Z Z e) Z<|aB (bT Z (mM Z) Z Z e) Z<|aB (fE Z (zBh (mM Z) e.1 e.2) Z) Z<|aC Z<|aO<|aR<|bI<|aG ?_;cases h;exact nH Z
 refine aU<|cC Z<|aC Z<|aO ?_;refine eN h Z (λh=>?_) λh=>?_
 ·refine aU<|aA Z<|cC Z<|eT h λo s h=>aK (zBg rR (gO U o s) Z .nil) Z λD=>aC Z<|aO<|aR<|bI<|aG ?_;cases h;exact nH Z
 refine aU<|cC Z<|aC Z<|aO ?_;refine eN h Z (λh=>?_) λh=>?_
 ·refine aU<|bU Z<|dQ 0 Z<|aA Z<|cU h λb h=>aB (bN Z Z (mM Z) Z Z b) Z<|aB (bT Z (mM Z) Z Z b) Z<|aA Z<|cU h λi h=>aB (bE Z Z (zBh (mM Z) b.1 b.2) Z Z i) Z<|aB (cZ Z Z Z Z Z) Z<|aB (eL Z (zBh (mM Z) b.1 b.2) Z Z Z EG i) Z<|aC Z<|aO<|aR<|bI<|aG ?_;cases h;exact nH Z
 refine eM<|lL<|aU<|dM 0 Z<|aA Z<|aA Z<|eT h λp t h=>aK (zBg OA (Fi U j k u p t) Z (iN [0,1] Z)) Z λE=>aC Z<|aO<|aR ?_;cases h;exact nH Z
def zL (U:Nat) (c:cO) (e:bO) (b d:Int) (a:gK):Option (Int):=
 if a.1=(1:Int)then(some (a.2))else(if a.1=(2:Int)then(some (1:Int))else(if a.1=(3:Int)then(some (0:Int))else(if a.1=(4:Int)then(some (-1:Int))else(if a.1=(5:Int)then(ck (0<=b/\b<(e.length:Int)) (ck (0<=a.2/\a.2<((at' e b).length:Int)) (some (at' (at' e b) a.2))))else(if a.1=(12:Int)then(ck (0<=b/\b<(c.2.length:Int)) (ck (0<=d/\d<((at' c.2 b).length:Int)) (ck (0<=((at' (at' c.2 b) d).1)/\((at' (at' c.2 b) d).1)<(e.length:Int)) (ck (0<=a.2/\a.2<((at' e ((at' (at' c.2 b) d).1)).length:Int)) (some (at' (at' e ((at' (at' c.2 b) d).1)) a.2))))))else(Option.bind (Iz U ((c.1,c.2)) a.1 b d) λf=>(some (f))))))))
theorem aan:bB Tryz.prog 201:=Tryz.call201
theorem Px (U:Nat) {k:cO} {p:bO} {q s:Int} {g:gK} (i j:V0) (u:lE) (t:V0) (w:kD) (r:Int) (h:zL U k p q s g=some r):
  bD Tryz.prog 201 #[Value.agg #[i,j],t,vI (q),vI (s),Value.agg #[vI (g.1),vI (g.2)]] [Sl aN i k.1,S2 aX j u k.2,S2 aN t w p] (λx:Unit=>vI (r)) (λx l=>l) (λ_ l=>l):=by
 refine bD.of Tryz.func201 Z Tryz.ntmps201 Z λc=>?_;refine aU<|aK (aP.box (cs:=[i,j]) Z Z) Z λy=>aK (aP.box (cs:=[vI (g.1),vI (g.2)]) Z Z) Z λA=>aC Z<|aO<|aL<|aU<|bU Z<|dQ 0 Z<|aO<|aS<|aU<|cC Z<|aC Z<|aO ?_;refine eN h Z (λh=>?_) λh=>?_
 ·refine aU<|bU Z<|dQ 0 Z<|aC Z<|aO<|aR<|bI<|aG ?_;cases h;exact nH Z
 refine aU<|cC Z<|aC Z<|aO ?_;refine eN h Z (λh=>?_) λh=>?_
 ·refine aU<|aC Z<|aO<|aR<|bI<|aG ?_;cases h;exact nH Z
 refine aU<|cC Z<|aC Z<|aO ?_;refine eN h Z (λh=>?_) λh=>?_
 ·refine aU<|aC Z<|aO<|aR<|bI<|aG ?_;cases h;exact nH Z
 refine aU<|cC Z<|aC Z<|aO ?_;refine eN h Z (λh=>?_) λh=>?_
 ·refine aU<|aC Z<|aO<|aR<|bI<|aG ?_;cases h;exact nH Z
 refine aU<|cC Z<|aC Z<|aO ?_;refine eN h Z (λh=>?_) λh=>?_
 ·refine aL ?_;refine sW [0,0,3,7,0,16,63,127,255] 6 mixedOrders ?_;refine aV Z<|aV Z<|cU h λd h=>aY Z .nil (fN 2 Z) (bN Z Z (cA Z) Z Z d) aJ.z<|aY Z .nil (fN 2 Z) (bT Z (cA Z) Z Z d) aJ.z<|cH Z<|fO 0 Z<|bP 6 Z Z<|cU h λo h=>aB (bE Z Z (zBh (yP Z) d.1 d.2) Z Z o) Z<|aB (cK Z (zBh (yP Z) d.1 d.2) Z Z Z eY o) Z<|aC Z<|aO<|aR<|bI<|aG ?_;cases h;exact nH Z
 refine aU<|cC Z<|aC Z<|aO ?_;refine eN h Z (λh=>?_) λh=>?_
 ·refine aL ?_;refine sW [0,0,2,0,14,30,0,126,254,510,1023,2047,0,4096,16383,32767,65535] 14 mixedOrders ?_;refine aV Z<|cH Z<|fO 1 Z<|aV Z<|cU h λa h=>aY Z .nil (fN 1 Z) (bN Z Z (cA Z) Z Z a) aJ.z<|aY Z .nil (fN 1 Z) (bT Z (cA Z) Z Z a) aJ.z<|aV Z<|cU h λe h=>aY Z .nil (fN 1 Z) (bE Z Z (zBh (cA Z) a.1 a.2) Z Z e) aJ.z<|gC Z (cZ Z Z Z Z Z)<|aY Z .nil (fN 1 Z) (eL Z (zBh (cA Z) a.1 a.2) Z Z Z gT e) aJ.z<|cU h λb h=>aY Z .nil (fN 2 Z) (bN Z Z (cA Z) Z Z b) aJ.z<|aY Z .nil (fN 2 Z) (bT Z (cA Z) Z Z b) aJ.z<|cH Z<|fO 0 Z<|bP 14 Z Z<|cU h λf h=>aB (bE Z Z (zBh (yP Z) b.1 b.2) Z Z f) Z<|aB (cK Z (zBh (yP Z) b.1 b.2) Z Z Z eY f) Z<|aC Z<|aO<|aR<|bI<|aG ?_;cases h;exact nH Z
 refine eM<|lL<|aU<|dM 1 Z<|bU Z<|dQ 0 Z<|aA Z<|aA Z<|eT h λm n h=>aK (zBg aau (Pu U i j u m n) Z (iN [0,1] Z)) Z λv=>aC Z<|aO<|aR ?_;cases h;exact nH Z
def rY (a:Bool):Option Bool:=
 some (a)
def tJ (U:Nat) (a:Int):Option Bool:=
 if(20:Int)<=a then(rY (decide (a<=(29:Int))))else(rY (false))
theorem aao:bB Tryz.prog 202:=Tryz.call202
theorem IS (U:Nat) {b:Int} (r:Bool) (h:tJ U b=some r):
  bD Tryz.prog 202 #[vI (b)] [] (λx:Unit=>vB (r)) (λx l=>l) (λ_ l=>l):=by
 refine bD.of Tryz.func202 Z Tryz.ntmps202 Z λc=>?_;refine aU<|aC Z<|aO<|aL<|eR (λa=>rY a=some r) (λa d=>[(2,vB (a))]) (λa d=>[]) ?_ ?_
 ·refine aQ<|aA Z<|aB (yV Z Z) Z<|aA Z ?_;refine BZ h Z (λ_ h=>?_) λ_ h=>?_
  ·refine dC Z<|aT Z (Cp Z Z) Z<|dR Z<|aC Z<|aO ?_;exact fT (decide (b<=(29:Int))) () h SF Z
  refine aM Z<|aM Z<|eV Z<|aC Z<|aO ?_;exact fT (false) () h SF Z
 intro a d h;unfold rY at h;refine aR ?_;cases h;exact iZ Z
def nT (U:Nat) (a:Int):Option (Int):=
 some (min (max a (-1073741824:Int)) (1073741824:Int))
theorem TU:bB Tryz.prog 224:=Tryz.call224
theorem Ez (U:Nat) {a:Int} (r:Int) (h:nT U a=some r):
  bD Tryz.prog 224 #[vI (a)] [] (λx:Unit=>vI (r)) (λx l=>l) (λ_ l=>l):=by
 refine bD.of Tryz.func224 Z Tryz.ntmps224 Z λc=>?_;unfold nT at h;refine aU<|aC Z<|aO<|aU<|aA Z<|aB (Hj Z Z) Z<|aB (Nl Z Z) Z<|aC Z<|aO<|aR ?_;cases h;exact iZ Z
def xS (a:Unit):Option Bool:=
 some (false)
def pG (c:bQ) (d a:Int) (b:(Int)->Option Bool):Option Bool:=
 if a<(c.length:Int)then(ck (0<=a/\a<(c.length:Int)) (if(at' c a)=d then(some (true))else(b (wI .i64 (a+(1:Int))))))else(xS (()))
def uK (U:Nat) (a:bQ) (b:Int):Option Bool:=
 bJ (pG a b) U (0:Int)
theorem aav:bB Tryz.prog 225:=Tryz.call225
theorem Mi (U:Nat) {e:bQ} {d:Int} (f:V0) (r:Bool) (h:uK U e d=some r):
  bD Tryz.prog 225 #[f,vI (d)] [Sl aN f e] (λx:Unit=>vB (r)) (λx l=>l) (λ_ l=>l):=by
 refine bD.of Tryz.func225 Z Tryz.ntmps225 Z λc=>?_;unfold uK at h;refine aU<|aC Z<|aO<|aL<|eR (λa=>xS a=some r) (λa g=>[]) (λa g=>[]) ?_ ?_
 ·refine aU<|aC Z<|aO<|aS<|fI (pG e d) (λb i=>[(0,f),(1,vI (d)),(5,vI (b))]) (λb i=>[]) (0:Int) () h SF (aZ.refl _) ?_;intro k b i h;refine aL<|aU<|aA Z<|aA Z<|iH (cA Z) Z<|cV Z<|aO ?_;refine eN h Z (λh=>?_) λh=>?_
  ·refine cL<|aL<|aS<|aU<|aA Z<|aA Z<|cU h λj h=>aB (bE Z Z (cA Z) Z Z j) Z<|aB (cK Z (cA Z) Z Z Z eY j) Z<|aA Z<|cC Z<|aO ?_;refine eN h Z (λh=>?_) λh=>?_
   ·refine aU<|aC Z<|aO<|aR<|bI<|aG<|aG<|bI<|aG ?_;cases h;exact iZ Z
   refine eM<|lL<|aQ<|aA Z<|cP Z<|aC Z<|aO ?_;exact xY (wI .i64 (b+(1:Int))) () h SF Z
  refine fG ?_;exact fT () (()) h SF Z
 intro a g h;unfold xS at h;refine aU<|aC Z<|aO<|aR ?_;cases h;exact iZ Z
def BA (a:Int):Option (Int):=
 some (a)
def wW (U:Nat) (d:bQ) (a:Int) (b:(Int)->Option (Int)):Option (Int):=
 Option.bind (uK U d a) λc=>(if c=true then(b (wI .i64 (a+(1:Int))))else(BA (a)))
def sZ (U:Nat) (a:Int) (c:bQ) (b:Int×Int×Int×Int×Int×Int):Option (Int):=
 if a=(20:Int)then(Option.bind (dZ U (decide (b.1=(c.length:Int)))) λd=>(some (d)))else(if a=(21:Int)then(Option.bind (dZ U (decide ((0:Int)<b.1))) λe=>(some (e)))else(if a=(22:Int)then(some (b.1))else(if a=(23:Int)then(some (b.2.1))else(if a=(24:Int)then(some (b.2.2.1))else(if a=(25:Int)then(some (b.2.2.2.1))else(if a=(26:Int)then(Option.bind (nT U b.2.2.2.2.2) λf=>(some (f)))else(if a=(28:Int)then(some (b.2.2.2.2.1))else(if a=(27:Int)then(bJ (wW U c) U (0:Int))else(if(c.length:Int)=(0:Int)then(some (0:Int))else(ck (0<=(0:Int)/\(0:Int)<(c.length:Int)) (some (at' c (0:Int)))))))))))))
def BC (b:bQ) (a:Rq) (c:UJ->Option (Int)) (d e:Int):Option (Int):=
 ck (0<=a.2.2.2.2.2.2/\a.2.2.2.2.2.2<(b.length:Int)) (ck (0<=a.2.2.2.2.2.2/\a.2.2.2.2.2.2<(b.length:Int)) (ck (0<=a.2.2.2.2.2.2/\a.2.2.2.2.2.2<(b.length:Int)) (ck (0<=a.2.2.2.2.2.2/\a.2.2.2.2.2.2<(b.length:Int)) (c (d,e,(min a.2.2.1 (at' b a.2.2.2.2.2.2)),(max a.2.2.2.1 (at' b a.2.2.2.2.2.2)),(max a.2.2.2.2.1 (min a.2.2.2.1 (at' b a.2.2.2.2.2.2))),(wI .i64 (a.2.2.2.2.2.1+(at' b a.2.2.2.2.2.2))),(wI .i64 (a.2.2.2.2.2.2+(1:Int))))))))
def BD (e:bQ) (a:Rq) (b:UJ->Option (Int)) (c:Int) (d:Bool):Option (Int):=
 if d=true then(BC e a b c (a.2.2.2.2.2.2))else(BC e a b c (a.2.1))
def BB (d:bQ) (a:Rq) (b:UJ->Option (Int)) (c:Int):Option (Int):=
 ck (0<=a.2.2.2.2.2.2/\a.2.2.2.2.2.2<(d.length:Int)) (if(at' d a.2.2.2.2.2.2)≠(0:Int)then(BD d a b c (decide (a.2.1<(0:Int))))else(BD d a b c (false)))
def nR (U:Nat) (d:Int) (c:bQ) (a:Rq) (b:UJ->Option (Int)):Option (Int):=
 if a.2.2.2.2.2.2<(c.length:Int)then(ck (0<=a.2.2.2.2.2.2/\a.2.2.2.2.2.2<(c.length:Int)) (if(at' c a.2.2.2.2.2.2)≠(0:Int)then(BB c a b (wI .i64 (a.1+(1:Int))))else(BB c a b (a.1))))else(sZ U d c (a.1,a.2.1,a.2.2.1,a.2.2.2.1,a.2.2.2.2.1,a.2.2.2.2.2.1))
def nK (U:Nat) (a:Int) (b:bQ):Option (Int):=
 bJ (nR U a b) U ((0:Int),(-1:Int),(1073741824:Int),(-1073741824:Int),(-1073741824:Int),(0:Int),(0:Int))
theorem aap:bB Tryz.prog 203:=Tryz.call203
theorem Pv (U:Nat) {p:Int} {g:bQ} (q:V0) (r:Int) (h:nK U p g=some r):
  bD Tryz.prog 203 #[vI (p),q] [Sl aN q g] (λx:Unit=>vI (r)) (λx l=>l) (λ_ l=>l):=by
 refine bD.of Tryz.func203 Z Tryz.ntmps203 Z λc=>?_;unfold nK at h;refine aU<|aC Z<|aO<|aU<|aC Z<|aC Z<|aC Z<|aC Z<|aC Z<|aC Z<|aO<|aL<|eR (λo=>sZ U p g o=some r) (λo Q=>[(0,vI (p)),(1,q),(5,vI (o.1)),(6,vI (o.2.1)),(7,vI (o.2.2.1)),(8,vI (o.2.2.2.1)),(9,vI (o.2.2.2.2.1)),(10,vI (o.2.2.2.2.2))]) (λo Q=>[]) ?_ ?_
 ·refine aU<|aC Z<|aO<|aS<|fI (nR U p g) (λa v=>[(0,vI (p)),(1,q),(5,vI (a.1)),(6,vI (a.2.1)),(7,vI (a.2.2.1)),(8,vI (a.2.2.2.1)),(9,vI (a.2.2.2.2.1)),(10,vI (a.2.2.2.2.2.1)),(11,vI (a.2.2.2.2.2.2))]) (λa v=>[]) ((0:Int),(-1:Int),(1073741824:Int),(-1073741824:Int),(-1073741824:Int),(0:Int),(0:Int)) () h SF (aZ.refl _) ?_;intro H a v h;let m:=a.2.2.1;let s:=(bJ (nR U p g) H)
  let b:=a.2.2.2;let n:=b.2.2.1;let e:=b.2.2.2;refine aL<|aU<|aA Z<|aA Z<|iH (cA Z) Z<|cV Z<|aO ?_;refine eN h Z (λh=>?_) λh=>?_
  ·refine cL<|aL<|aS<|aL<|eR (λd=>BB g a s d=some r) (λd w=>[(0,vI (p)),(1,q),(5,vI (d)),(6,vI (a.2.1)),(7,vI (m)),(8,vI (b.1)),(9,vI (b.2.1)),(10,vI (n)),(11,vI (e))]) (λd w=>[]) ?_ ?_
   ·refine aU<|aA Z<|aA Z<|cU h λG h=>aB (bE Z Z (cA Z) Z Z G) Z<|aB (cK Z (cA Z) Z Z Z eY G) Z<|k_ Z<|aO ?_;refine eN h Z (λh=>?_) λh=>?_
    ·refine aQ<|aA Z<|cP Z<|aC Z<|aO ?_;exact fT (wI .i64 (a.1+(1:Int))) () h SF Z
    refine cL ?_;exact fT (a.1) () h SF Z
   intro d w h;refine aL<|eR (λf=>BC g a s d f=some r) (λf y=>[(0,vI (p)),(1,q),(5,vI (d)),(6,vI (f)),(7,vI (m)),(8,vI (b.1)),(9,vI (b.2.1)),(10,vI (n)),(11,vI (e))]) (λf y=>[]) ?_ ?_
   ·refine aL<|eR (λk=>BD g a s d k=some r) (λk z=>[(0,vI (p)),(1,q),(5,vI (d)),(6,vI (a.2.1)),(7,vI (m)),(8,vI (b.1)),(9,vI (b.2.1)),(10,vI (n)),(11,vI (e)),(34,vB (k))]) (λk z=>[]) ?_ ?_
    ·refine aQ<|aA Z<|aA Z<|cU h λF h=>aB (bE Z Z (cA Z) Z Z F) Z<|aB (cK Z (cA Z) Z Z Z eY F) Z<|k_ Z<|aA Z ?_;refine BZ h Z (λ_ h=>?_) λ_ h=>?_
     ·refine dC Z<|aT Z (CO Z Z) Z<|dR Z<|aO ?_;exact fT (decide (a.2.1<(0:Int))) () h SF Z
     refine aM Z<|aM Z<|eV Z<|aO ?_;exact fT (false) () h SF Z
    intro k z h;refine tC h Z (λ_ h=>?_) λ_ h=>?_
    ·refine aQ<|aA Z<|aC Z<|aO ?_;exact fT (e) () h SF Z
    refine cL ?_;exact fT (a.2.1) () h SF Z
   intro f y h;refine aU<|aA Z<|aA Z<|aA Z<|cU h λB h=>aB (bE Z Z (cA Z) Z Z B) Z<|aB (cK Z (cA Z) Z Z Z eY B) Z<|aB (Nl Z Z) Z<|aC Z<|aO<|aU<|aA Z<|aA Z<|aA Z<|aA Z<|cU h λC h=>aB (bE Z Z (cA Z) Z Z C) Z<|aB (cK Z (cA Z) Z Z Z eY C) Z<|aB (Nl Z Z) Z<|aB (Hj Z Z) Z<|aC Z<|aO<|aU<|aA Z<|aA Z<|aA Z<|cU h λD h=>aB (bE Z Z (cA Z) Z Z D) Z<|aB (cK Z (cA Z) Z Z Z eY D) Z<|aB (Hj Z Z) Z<|aC Z<|aO<|aQ<|aA Z<|aA Z<|aA Z<|cU h λE h=>aB (bE Z Z (cA Z) Z Z E) Z<|aB (cK Z (cA Z) Z Z Z eY E) Z<|cP Z<|aC Z<|fJ<|lL<|aQ<|aA Z<|cP Z<|aC Z<|aO ?_;exact xY (d,f,(min m (at' g e)),(max b.1 (at' g e)),(max b.2.1 (min b.1 (at' g e))),(wI .i64 (n+(at' g e))),(wI .i64 (e+(1:Int)))) () h SF Z
  refine fG ?_;exact fT (a.1,a.2.1,m,b.1,b.2.1,n) () h SF Z
 intro o Q h;refine aL<|aU<|aA Z<|aO<|aS<|aU<|cC Z<|aC Z<|aO ?_;refine eN h Z (λh=>?_) λh=>?_
 ·refine aU<|aA Z<|aA Z<|iH (cA Z) Z<|cC Z<|eT h λI M h=>aK (zBg rR (gO U I M) Z .nil) Z λS=>aC Z<|aO<|aR<|bI<|aG ?_;cases h;exact iZ Z
 refine aU<|cC Z<|aC Z<|aO ?_;refine eN h Z (λh=>?_) λh=>?_
 ·refine aU<|aA Z<|aB (tH Z Z) Z<|eT h λJ N h=>aK (zBg rR (gO U J N) Z .nil) Z λT=>aC Z<|aO<|aR<|bI<|aG ?_;cases h;exact iZ Z
 refine aU<|cC Z<|aC Z<|aO ?_;refine eN h Z (λh=>?_) λh=>?_
 ·refine aU<|aA Z<|aC Z<|aO<|aR<|bI<|aG ?_;cases h;exact iZ Z
 refine aU<|cC Z<|aC Z<|aO ?_;refine eN h Z (λh=>?_) λh=>?_
 ·refine aU<|aA Z<|aC Z<|aO<|aR<|bI<|aG ?_;cases h;exact iZ Z
 refine aU<|cC Z<|aC Z<|aO ?_;refine eN h Z (λh=>?_) λh=>?_
 ·refine aU<|aA Z<|aC Z<|aO<|aR<|bI<|aG ?_;cases h;exact iZ Z
 refine aU<|cC Z<|aC Z<|aO ?_;refine eN h Z (λh=>?_) λh=>?_
 ·refine aU<|aA Z<|aC Z<|aO<|aR<|bI<|aG ?_;cases h;exact iZ Z
 refine aU<|cC Z<|aC Z<|aO ?_;refine eN h Z (λh=>?_) λh=>?_
 ·refine aU<|aA Z<|eT h λK O h=>aK (zBg TU (Ez U K O) Z .nil) Z λV=>aC Z<|aO<|aR<|bI<|aG ?_;cases h;exact iZ Z
 refine aU<|cC Z<|aC Z<|aO ?_;refine eN h Z (λh=>?_) λh=>?_
 ·refine aU<|aA Z<|aC Z<|aO<|aR<|bI<|aG ?_;cases h;exact iZ Z
 refine aU<|cC Z<|aC Z<|aO ?_;refine eN h Z (λh=>?_) λh=>?_
 ·refine aU<|aC Z<|aO<|aL<|eR (λi=>BA i=some r) (λi t=>[(12,vI (i))]) (λi t=>[]) ?_ ?_
  ·refine aS<|fI (wW U g) (λj u=>[(1,q),(12,vI (j))]) (λj u=>[]) (0:Int) () h SF (aZ.refl _) ?_;intro R j u h;refine aL<|aU<|aA Z<|aA Z<|eT h λL P h=>aK (zBg aav (Mi U q L P) Z (iN [0] Z)) Z λW=>aO ?_;refine tC h Z (λ_ h=>?_) λ_ h=>?_
   ·refine cL<|aS<|aQ<|aA Z<|cP Z<|aC Z<|fJ<|lL ?_;exact xY (wI .i64 (j+(1:Int))) () h SF Z
   refine fG ?_;exact fT (j) () h SF Z
  intro i t h;unfold BA at h;refine aU<|aA Z<|aC Z<|aO<|aR<|bI<|aG ?_;cases h;exact iZ Z
 refine eM<|lL<|aL<|aU<|aA Z<|iH (cA Z) Z<|cC Z<|aO ?_;refine eN h Z (λh=>?_) λh=>?_
 ·refine aU<|aC Z<|aO<|aR<|aG ?_;cases h;exact iZ Z
 refine cL<|aU<|aA Z<|cU h λA h=>aB (bE Z Z (cA Z) Z Z A) Z<|aB (cK Z (cA Z) Z Z Z eY A) Z<|aC Z<|aO<|aR ?_;cases h;exact iZ Z
def sQ (a:Bool):Option Bool:=
 some (a)
def oE (U:Nat) (a:Int):Option Bool:=
 if(-1073741824:Int)<=a then(sQ (decide (a<=(1073741824:Int))))else(sQ (false))
theorem KJ:bB Tryz.prog 226:=Tryz.call226
theorem AB (U:Nat) {b:Int} (r:Bool) (h:oE U b=some r):
  bD Tryz.prog 226 #[vI (b)] [] (λx:Unit=>vB (r)) (λx l=>l) (λ_ l=>l):=by
 refine bD.of Tryz.func226 Z Tryz.ntmps226 Z λc=>?_;refine aU<|aC Z<|aO<|aL<|eR (λa=>sQ a=some r) (λa d=>[(2,vB (a))]) (λa d=>[]) ?_ ?_
 ·refine aQ<|aA Z<|aB (yV Z Z) Z<|aA Z ?_;refine BZ h Z (λ_ h=>?_) λ_ h=>?_
  ·refine dC Z<|aT Z (Cp Z Z) Z<|dR Z<|aC Z<|aO ?_;exact fT (decide (b<=(1073741824:Int))) () h SF Z
  refine aM Z<|aM Z<|eV Z<|aC Z<|aO ?_;exact fT (false) () h SF Z
 intro a d h;unfold sQ at h;refine aR ?_;cases h;exact iZ Z
def uV (U:Nat) (c a:Int) (b:Bool):Option i_:=
 if b=true then(some ((0:Int),(2:Int)))else(if c=(18:Int)then(some ((wI .i64 (0 - a)),(0:Int)))else(Option.bind (dZ U (decide (a=(0:Int)))) λd=>(some (d,(0:Int)))))
def DN (U:Nat) (a b:Int):Option i_:=
 if a≠(18:Int)then(if a≠(19:Int)then(uV U a b (true))else(Option.bind (oE U b) λc=>(uV U a b ((!c)))))else(Option.bind (oE U b) λd=>(uV U a b ((!d))))
theorem aaq:bB Tryz.prog 204:=Tryz.call204
theorem MS (U:Nat) {e f:Int} (r:gK) (h:DN U e f=some r):
  bD Tryz.prog 204 #[vI (e),vI (f)] [] (λx:Unit=>Value.tuple #[vI (r.1),vI (r.2)]) (λx l=>l) (λ_ l=>l):=by
 refine bD.of Tryz.func204 Z Tryz.ntmps204 Z λc=>?_;refine aU<|aC Z<|aC Z<|aO<|aL<|aL<|eR (λa=>uV U e f a=some r) (λa j=>[(0,vI (e)),(1,vI (f)),(16,vB (a))]) (λa j=>[]) ?_ ?_
 ·refine aQ<|aA Z<|k_ Z<|aA Z ?_;refine BZ h Z (λ_ h=>?_) λ_ h=>?_
  ·refine dC Z<|aT Z (BP Z Z) Z<|dR Z<|aA Z ?_;refine BZ h Z (λ_ h=>?_) λ_ h=>?_
   ·refine aM Z<|aM Z<|aM Z<|dR Z<|aO ?_;exact fT (true) () h SF Z
   refine dC Z<|eT h λb g h=>qH Z (zBg KJ (AB U b g) Z .nil) Z λn=>aT Z (kM Z) Z<|eV Z<|aO ?_;exact fT ((!b)) () h SF Z
  refine aM Z<|aM Z<|eV Z<|aA Z<|dC Z<|eT h λd i h=>qH Z (zBg KJ (AB U d i) Z .nil) Z λo=>aT Z (kM Z) Z<|eV Z<|aO ?_;exact fT ((!d)) () h SF Z
 intro a j h;refine tC h Z (λ_ h=>?_) λ_ h=>?_
 ·refine aU<|aC Z<|aC Z<|aO<|aR<|aG ?_;cases h;exact hZ () Z Z (RV.tmp Z) (RV.tmp Z) (aZ.refl _) aI.nil
 refine cL<|aL<|aU<|aA Z<|cC Z<|aO ?_;refine eN h Z (λh=>?_) λh=>?_
 ·refine aU<|aA Z<|aB (abV Z) Z<|aC Z<|aC Z<|aO<|aR<|aG ?_;cases h;exact hZ () Z Z (RV.tmp Z) (RV.tmp Z) (aZ.refl _) aI.nil
 refine cL<|aU<|aA Z<|cC Z<|eT h λk m h=>aK (zBg rR (gO U k m) Z .nil) Z λp=>aC Z<|aC Z<|aO<|aR ?_;cases h;exact hZ () Z Z (RV.tmp Z) (RV.tmp Z) (aZ.refl _) aI.nil
def pU (a:Int):Option (Int):=
 some (a)
def tR (a b:Int) (c:Bool):Option (Int):=
 if c=true then(pU (wI .i64 ((wI .i64 (Int.tdiv a b)) - (1:Int))))else(pU (wI .i64 (Int.tdiv a b)))
def l_ (U:Nat) (b a:Int):Option (Int):=
 if a=(0:Int)then(some (0:Int))else(ck (a≠0) (ck (a≠0) (if(Int.tmod b a)≠(0:Int)then(tR b a (((decide (b<(0:Int))) != (decide (a<(0:Int))))))else(tR b a (false)))))
theorem TW:bB Tryz.prog 254:=Tryz.call254
theorem EA (U:Nat) {a b:Int} (r:Int) (h:l_ U a b=some r):
  bD Tryz.prog 254 #[vI (a),vI (b)] [] (λx:Unit=>vI (r)) (λx l=>l) (λ_ l=>l):=by
 refine bD.of Tryz.func254 Z Tryz.ntmps254 Z λc=>?_;refine aU<|aC Z<|aO<|aL<|aU<|aA Z<|cC Z<|aO ?_;refine eN h Z (λh=>?_) λh=>?_
 ·refine aU<|aC Z<|aO<|aR<|aG ?_;cases h;exact iZ Z
 refine cL<|aU<|aA Z<|aA Z<|cU h λj h=>aB (WI Z Z j) Z<|aC Z<|aO<|aL<|eR (λd=>pU d=some r) (λd g=>[(5,vI (d))]) (λd g=>[]) ?_ ?_
 ·refine aL<|eR (λe=>tR a b e=some r) (λe i=>[(5,vI (wI .i64 (Int.tdiv a b))),(21,vB (e))]) (λe i=>[]) ?_ ?_
  ·refine aQ<|aA Z<|aA Z<|cU h λf h=>aB (Nm Z Z f) Z<|k_ Z<|aA Z ?_;refine BZ h Z (λ_ h=>?_) λ_ h=>?_
   ·refine dC Z<|aT Z (CO Z Z) Z<|dC Z<|aT Z (CO Z Z) Z<|aT Z (WH Z Z Z) Z<|dR Z<|aO ?_;exact fT (((decide (a<(0:Int))) != (decide (b<(0:Int))))) () h SF Z
   refine aM Z<|aM Z<|aM Z<|aM Z<|aM Z<|eV Z<|aO ?_;exact fT (false) () h SF Z
  intro e i h;refine tC h Z (λ_ h=>?_) λ_ h=>?_
  ·refine aQ<|aA Z<|aB (nY Z Z) Z<|aC Z<|aO ?_;exact fT (wI .i64 ((wI .i64 (Int.tdiv a b)) - (1:Int))) () h SF Z
  refine cL ?_;exact fT (wI .i64 (Int.tdiv a b)) () h SF Z
 intro d g h;unfold pU at h;refine aU<|aA Z<|aC Z<|aO<|aR ?_;cases h;exact iZ Z
def zV (a:Int):Option (Int):=
 some (a)
def zW (a:Int):Option (Int):=
 some (a)
def DO (U:Nat) (c b a:Int):Option (Int):=
 if c=(30:Int)then(some (wI .i64 (b*a)))else(if c=(31:Int)then(Option.bind (l_ U b a) λn=>(some (n)))else(if c=(32:Int)then(if a=(0:Int)then(some (0:Int))else(Option.bind (l_ U b a) λo=>(some (wI .i64 (b - (wI .i64 (a*o)))))))else(if c=(33:Int)then(some (wI .i64 (b+a)))else(if c=(34:Int)then(some (wI .i64 (b - a)))else(if c=(35:Int)then(Option.bind (dZ U (decide (b=a))) λd=>(some (d)))else(if c=(36:Int)then(Option.bind (dZ U (decide (b≠a))) λe=>(some (e)))else(if c=(37:Int)then(Option.bind (dZ U (decide (b<a))) λf=>(some (f)))else(if c=(38:Int)then(Option.bind (dZ U (decide (b<=a))) λg=>(some (g)))else(if c=(39:Int)then(Option.bind (dZ U (decide (a<b))) λh=>(some (h)))else(if c=(40:Int)then(Option.bind (dZ U (decide (a<=b))) λi=>(some (i)))else(if c=(41:Int)then(if b≠(0:Int)then(Option.bind (dZ U (decide (a≠(0:Int)))) λj=>(zV (j)))else(Option.bind (dZ U false) λk=>(zV (k))))else(if b≠(0:Int)then(Option.bind (dZ U true) λl=>(zW (l)))else(Option.bind (dZ U (decide (a≠(0:Int)))) λm=>(zW (m)))))))))))))))
theorem aaw:bB Tryz.prog 227:=Tryz.call227
theorem MU (U:Nat) {D E F:Int} (r:Int) (h:DO U D E F=some r):
  bD Tryz.prog 227 #[vI (D),vI (E),vI (F)] [] (λx:Unit=>vI (r)) (λx l=>l) (λ_ l=>l):=by
 refine bD.of Tryz.func227 Z Tryz.ntmps227 Z λc=>?_;refine aU<|aC Z<|aO<|aL<|aU<|aA Z<|aO<|aS<|aU<|cC Z<|aC Z<|aO ?_;refine eN h Z (λh=>?_) λh=>?_
 ·refine aU<|aA Z<|aA Z<|aB (wB Z Z) Z<|aC Z<|aO<|aR<|bI<|aG ?_;cases h;exact iZ Z
 refine aU<|cC Z<|aC Z<|aO ?_;refine eN h Z (λh=>?_) λh=>?_
 ·refine aU<|aA Z<|aA Z<|eT h λG I h=>aK (zBg TW (EA U G I) Z .nil) Z λW=>aC Z<|aO<|aR<|bI<|aG ?_;cases h;exact iZ Z
 refine aU<|cC Z<|aC Z<|aO ?_;refine eN h Z (λh=>?_) λh=>?_
 ·refine aL<|aU<|aA Z<|cC Z<|aO ?_;refine eN h Z (λh=>?_) λh=>?_
  ·refine aU<|aC Z<|aO<|aR<|aG<|bI<|aG ?_;cases h;exact iZ Z
  refine cL<|aU<|aA Z<|aA Z<|aA Z<|aA Z<|eT h λH J h=>aK (zBg TW (EA U H J) Z .nil) Z λK=>aB (wB Z Z) Z<|aB (nY Z Z) Z<|aC Z<|aO<|aR<|bI<|aG ?_;cases h;exact iZ Z
 refine aU<|cC Z<|aC Z<|aO ?_;refine eN h Z (λh=>?_) λh=>?_
 ·refine aU<|aA Z<|aA Z<|cP Z<|aC Z<|aO<|aR<|bI<|aG ?_;cases h;exact iZ Z
 refine aU<|cC Z<|aC Z<|aO ?_;refine eN h Z (λh=>?_) λh=>?_
 ·refine aU<|aA Z<|aA Z<|aB (nY Z Z) Z<|aC Z<|aO<|aR<|bI<|aG ?_;cases h;exact iZ Z
 refine aU<|cC Z<|aC Z<|aO ?_;refine eN h Z (λh=>?_) λh=>?_
 ·refine aU<|aA Z<|aA Z<|cC Z<|eT h λk s h=>aK (zBg rR (gO U k s) Z .nil) Z λL=>aC Z<|aO<|aR<|bI<|aG ?_;cases h;exact iZ Z
 refine aU<|cC Z<|aC Z<|aO ?_;refine eN h Z (λh=>?_) λh=>?_
 ·refine aU<|aA Z<|aA Z<|k_ Z<|eT h λm t h=>aK (zBg rR (gO U m t) Z .nil) Z λM=>aC Z<|aO<|aR<|bI<|aG ?_;cases h;exact iZ Z
 refine aU<|cC Z<|aC Z<|aO ?_;refine eN h Z (λh=>?_) λh=>?_
 ·refine aU<|aA Z<|aA Z<|cV Z<|eT h λn u h=>aK (zBg rR (gO U n u) Z .nil) Z λN=>aC Z<|aO<|aR<|bI<|aG ?_;cases h;exact iZ Z
 refine aU<|cC Z<|aC Z<|aO ?_;refine eN h Z (λh=>?_) λh=>?_
 ·refine aU<|aA Z<|aA Z<|aB (Cp Z Z) Z<|eT h λo v h=>aK (zBg rR (gO U o v) Z .nil) Z λO=>aC Z<|aO<|aR<|bI<|aG ?_;cases h;exact iZ Z
 refine aU<|cC Z<|aC Z<|aO ?_;refine eN h Z (λh=>?_) λh=>?_
 ·refine aU<|aA Z<|aA Z<|aB (tH Z Z) Z<|eT h λp w h=>aK (zBg rR (gO U p w) Z .nil) Z λP=>aC Z<|aO<|aR<|bI<|aG ?_;cases h;exact iZ Z
 refine aU<|cC Z<|aC Z<|aO ?_;refine eN h Z (λh=>?_) λh=>?_
 ·refine aU<|aA Z<|aA Z<|aB (yV Z Z) Z<|eT h λq y h=>aK (zBg rR (gO U q y) Z .nil) Z λQ=>aC Z<|aO<|aR<|bI<|aG ?_;cases h;exact iZ Z
 refine aU<|cC Z<|aC Z<|aO ?_;refine eN h Z (λh=>?_) λh=>?_
 ·refine aL<|eR (λa=>zV a=some r) (λa d=>[(6,vI (a))]) (λa d=>[]) ?_ ?_
  ·refine aQ<|aA Z<|k_ Z<|aA Z ?_;refine BZ h Z (λ_ h=>?_) λ_ h=>?_
   ·refine dC Z<|aT Z (BP Z Z) Z<|dR Z<|eT h λf z h=>aK (zBg rR (gO U f z) Z .nil) Z λR=>aC Z<|aO ?_;exact fT (f) () h SF Z
   refine aM Z<|aM Z<|eV Z<|eT h λg A h=>aK (zBg rR (gO U g A) Z .nil) Z λS=>aC Z<|aO ?_;exact fT (g) () h SF Z
  intro a d h;unfold zV at h;refine aR<|bI<|aG ?_;cases h;exact iZ Z
 refine eM<|lL<|aL<|eR (λb=>zW b=some r) (λb e=>[(6,vI (b))]) (λb e=>[]) ?_ ?_
 ·refine aQ<|aA Z<|k_ Z<|aA Z ?_;refine BZ h Z (λ_ h=>?_) λ_ h=>?_
  ·refine aM Z<|aM Z<|dR Z<|eT h λi B h=>aK (zBg rR (gO U i B) Z .nil) Z λT=>aC Z<|aO ?_;exact fT (i) () h SF Z
  refine dC Z<|aT Z (BP Z Z) Z<|eV Z<|eT h λj C h=>aK (zBg rR (gO U j C) Z .nil) Z λV=>aC Z<|aO ?_;exact fT (j) () h SF Z
 intro b e h;unfold zW at h;refine aR ?_;cases h;exact iZ Z
def pF (U:Nat) (b c d:Int) (a:Bool):Option i_:=
 if a=true then(some ((0:Int),(2:Int)))else(Option.bind (DO U b c d) λe=>(Option.bind (nT U e) λf=>(some (f,(0:Int)))))
def zK (U:Nat) (a b c:Int):Option i_:=
 if a<(30:Int)then(pF U a b c (true))else(if(42:Int)<a then(pF U a b c (true))else(Option.bind (oE U b) λd=>(if(!d)=true then(pF U a b c (true))else(Option.bind (oE U c) λe=>(pF U a b c ((!e)))))))
theorem aar:bB Tryz.prog 205:=Tryz.call205
theorem Mh (U:Nat) {e f g:Int} (r:gK) (h:zK U e f g=some r):
  bD Tryz.prog 205 #[vI (e),vI (f),vI (g)] [] (λx:Unit=>Value.tuple #[vI (r.1),vI (r.2)]) (λx l=>l) (λ_ l=>l):=by
 refine bD.of Tryz.func205 Z Tryz.ntmps205 Z λc=>?_;refine aU<|aC Z<|aC Z<|aO<|aL<|aL<|eR (λb=>pF U e f g b=some r) (λb m=>[(0,vI (e)),(1,vI (f)),(2,vI (g)),(23,vB (b))]) (λb m=>[]) ?_ ?_
 ·refine aQ<|aA Z<|cV Z<|aA Z ?_;refine BZ h Z (λ_ h=>?_) λ_ h=>?_
  ·refine aM Z<|aM Z<|dR Z<|aA Z<|aM Z<|aM Z<|aM Z<|dR Z<|aA Z<|aM Z<|aM Z<|aM Z<|dR Z<|aO ?_;exact fT (true) () h SF Z
  refine dC Z<|aT Z (tH Z Z) Z<|eV Z<|aA Z ?_;refine BZ h Z (λ_ h=>?_) λ_ h=>?_
  ·refine aM Z<|aM Z<|aM Z<|dR Z<|aA Z<|aM Z<|aM Z<|aM Z<|dR Z<|aO ?_;exact fT (true) () h SF Z
  refine dC Z<|eT h λi j h=>qH Z (zBg KJ (AB U i j) Z .nil) Z λt=>aT Z (kM Z) Z<|eV Z<|aA Z ?_;refine tD (by exact rfl) (by exact rfl) (λa=>?_) (λa=>?_)
  ·have h:=Iv a h;refine aM Z<|aM Z<|aM Z<|dR Z<|aO ?_;exact fT (true) () h SF Z
  have h:=FA a h;refine dC Z<|eT h λd k h=>qH Z (zBg KJ (AB U d k) Z .nil) Z λu=>aT Z (kM Z) Z<|eV Z<|aO ?_;exact fT ((!d)) () h SF Z
 intro b m h;refine tC h Z (λ_ h=>?_) λ_ h=>?_
 ·refine aU<|aC Z<|aC Z<|aO<|aR<|aG ?_;cases h;exact hZ () Z Z (RV.tmp Z) (RV.tmp Z) (aZ.refl _) aI.nil
 refine cL<|aU<|aA Z<|aA Z<|aA Z<|eT h λn p h=>aK (zBg aaw (MU U n p) Z .nil) Z λv=>eT h λo q h=>aK (zBg TU (Ez U o q) Z .nil) Z λs=>aC Z<|aC Z<|aO<|aR ?_;cases h;exact hZ () Z Z (RV.tmp Z) (RV.tmp Z) (aZ.refl _) aI.nil
def EY (a:Unit):Option (Int):=
 some (-1:Int)
def IC (U:Nat) (d:fL) (a:gK) (c:i_->Option (Int)):Option (Int):=
 if a.2<(d.length:Int)then(ck (0<=a.2/\a.2<(d.length:Int)) (Option.bind (nP U ((at' d a.2).1)) λb=>(if b<(0:Int)then(some (-1:Int))else(if(wI .i64 (a.1+(wI .i64 (b - (1:Int)))))=(0:Int)then(some (wI .i64 (a.2+(1:Int))))else(c ((wI .i64 (a.1+(wI .i64 (b - (1:Int))))),(wI .i64 (a.2+(1:Int)))))))))else(EY (()))
def EX (U:Nat) (b:fL) (c:Int) (a:Bool):Option (Int):=
 if a=true then(some (-1:Int))else(bJ (IC U b) U ((1:Int),c))
def F_ (U:Nat) (b:fL) (a:Int):Option (Int):=
 if a<(0:Int)then(EX U b a (true))else(EX U b a (decide ((b.length:Int)<=a)))
theorem TV:bB Tryz.prog 228:=Tryz.call228
theorem Kk (U:Nat) {g:fL} {b:Int} (k:V0) (r:Int) (h:F_ U g b=some r):
  bD Tryz.prog 228 #[k,vI (b)] [Sl aX k g] (λx:Unit=>vI (r)) (λx l=>l) (λ_ l=>l):=by
 refine bD.of Tryz.func228 Z Tryz.ntmps228 Z λc=>?_;refine aU<|aC Z<|aO<|aL<|aL<|eR (λd=>EX U g b d=some r) (λd n=>[(0,k),(1,vI (b)),(15,vB (d))]) (λd n=>[]) ?_ ?_
 ·refine aQ<|aA Z<|cV Z<|aA Z ?_;refine BZ h Z (λ_ h=>?_) λ_ h=>?_
  ·refine aM Z<|aM Z<|aM Z<|aM Z<|dR Z<|aO ?_;exact fT (true) () h SF Z
  refine dC Z<|dC Z<|aT Z (fE Z (cA Z) Z) Z<|aT Z (yV Z Z) Z<|eV Z<|aO ?_;exact fT (decide ((g.length:Int)<=b)) () h SF Z
 intro d n h;refine tC h Z (λ_ h=>?_) λ_ h=>?_
 ·refine aU<|aC Z<|aO<|aR<|aG ?_;cases h;exact iZ Z
 refine cL<|aU<|aC Z<|aO<|aL<|eR (λj=>EY j=some r) (λj o=>[]) (λj o=>[]) ?_ ?_
 ·refine aU<|aA Z<|aC Z<|aO<|aS<|fI (IC U g) (λa e=>[(0,k),(5,vI (a.1)),(6,vI (a.2))]) (λa e=>[]) ((1:Int),b) () h SF (aZ.refl _) ?_;intro p a e h;refine aL<|aU<|aA Z<|aA Z<|iH (cA Z) Z<|cV Z<|aO ?_;refine eN h Z (λh=>?_) λh=>?_
  ·refine cL<|aL<|aS<|aU<|aA Z<|aA Z<|cU h λf h=>aB (bE Z Z (cA Z) Z Z f) Z<|aB (cZ Z Z Z Z Z) Z<|aB (eL Z (cA Z) Z Z Z gT f) Z<|eT h λi m h=>aK (zBg OB (DY U i m) Z .nil) Z λq=>aC Z<|aO<|aL<|aU<|aA Z<|cV Z<|aO ?_;refine eN h Z (λh=>?_) λh=>?_
   ·refine aU<|aC Z<|aO<|aR<|aG<|bI<|aG<|aG<|bI<|aG ?_;cases h;exact iZ Z
   refine cL<|aU<|aA Z<|aA Z<|aB (nY Z Z) Z<|cP Z<|aC Z<|aO<|aU<|aA Z<|cC Z<|aO ?_;refine eN h Z (λh=>?_) λh=>?_
   ·refine aU<|aA Z<|cP Z<|aC Z<|aO<|aR<|bI<|aG<|aG<|bI<|aG ?_;cases h;exact iZ Z
   refine eM<|lL<|aQ<|aA Z<|cP Z<|aC Z<|aO ?_;exact xY ((wI .i64 (a.1+(wI .i64 (i - (1:Int))))),(wI .i64 (a.2+(1:Int)))) () h SF Z
  refine fG ?_;exact fT () (()) h SF Z
 intro j o h;unfold EY at h;refine aU<|aC Z<|aO<|aR ?_;cases h;exact iZ Z
def Bh (a:Int):Option (Int):=
 some (a)
def Ev (U:Nat) (d:fL) (e:Int) (a:gK) (b:i_->Option (Int)):Option (Int):=
 if a.2<e then(Option.bind (F_ U d a.1) λc=>(b (c,(wI .i64 (a.2+(1:Int))))))else(Bh (a.1))
def vW (U:Nat) (b:fL) (c d:Int) (a:Bool):Option (Int):=
 if a=true then(some (-1:Int))else(bJ (Ev U b d) U ((wI .i64 (c+(1:Int))),(0:Int)))
def m_ (U:Nat) (b:fL) (a c:Int):Option (Int):=
 Option.bind (F_ U b a) λd=>(if d<(0:Int)then(vW U b a c (true))else(if c<(0:Int)then(vW U b a c (true))else(ck (0<=a/\a<(b.length:Int)) (Option.bind (nP U ((at' b a).1)) λe=>(vW U b a c (decide (e<=c)))))))
theorem OC:bB Tryz.prog 206:=Tryz.call206
theorem Ck (U:Nat) {n:fL} {j b:Int} (d:V0) (r:Int) (h:m_ U n j b=some r):
  bD Tryz.prog 206 #[d,vI (j),vI (b)] [Sl aX d n] (λx:Unit=>vI (r)) (λx l=>l) (λ_ l=>l):=by
 refine bD.of Tryz.func206 Z Tryz.ntmps206 Z λc=>?_;refine aU<|aC Z<|aO<|aL<|aL<|eR (λe=>vW U n j b e=some r) (λe t=>[(0,d),(1,vI (j)),(2,vI (b)),(26,vB (e))]) (λe t=>[]) ?_ ?_
 ·refine aQ<|aA Z<|aA Z<|eT h λo q h=>aK (zBg TV (Kk U d o q) Z (iN [0] Z)) Z λy=>cV Z<|aA Z ?_;refine BZ h Z (λ_ h=>?_) λ_ h=>?_
  ·refine aM Z<|aM Z<|dR Z<|aA Z<|aM Z<|aM Z<|aM Z<|aM Z<|aM Z<|aM Z<|aM Z<|aM Z<|dR Z<|aO ?_;exact fT (true) () h SF Z
  refine dC Z<|aT Z (CO Z Z) Z<|eV Z<|aA Z ?_;refine BZ h Z (λ_ h=>?_) λ_ h=>?_
  ·refine aM Z<|aM Z<|aM Z<|aM Z<|aM Z<|aM Z<|aM Z<|aM Z<|dR Z<|aO ?_;exact fT (true) () h SF Z
  refine dC Z<|dC Z<|dC Z<|cU h λi h=>aT Z (bE Z Z (cA Z) Z Z i) Z<|aT Z (cZ Z Z Z Z Z) Z<|aT Z (eL Z (cA Z) Z Z Z gT i) Z<|eT h λm s h=>qH Z (zBg OB (DY U m s) Z .nil) Z λz=>aT Z (yV Z Z) Z<|eV Z<|aO ?_;exact fT (decide (m<=b)) () h SF Z
 intro e t h;refine tC h Z (λ_ h=>?_) λ_ h=>?_
 ·refine aU<|aC Z<|aO<|aR<|aG ?_;cases h;exact iZ Z
 refine cL<|aU<|aA Z<|cP Z<|aC Z<|aO<|aL<|eR (λf=>Bh f=some r) (λf u=>[(7,vI (f))]) (λf u=>[]) ?_ ?_
 ·refine aU<|aC Z<|aO<|aS<|fI (Ev U n b) (λa g=>[(0,d),(2,vI (b)),(7,vI (a.1)),(8,vI (a.2))]) (λa g=>[]) ((wI .i64 (j+(1:Int))),(0:Int)) () h SF (aZ.refl _) ?_;intro v a g h;refine aL<|aU<|aA Z<|aA Z<|cV Z<|aO ?_;refine eN h Z (λh=>?_) λh=>?_
  ·refine cL<|aL<|aS<|aQ<|aA Z<|aA Z<|eT h λk p h=>aK (zBg TV (Kk U d k p) Z (iN [0] Z)) Z λw=>aC Z<|fJ<|lL<|aQ<|aA Z<|cP Z<|aC Z<|aO ?_;exact xY (k,(wI .i64 (a.2+(1:Int)))) () h SF Z
  refine fG ?_;exact fT (a.1) () h SF Z
 intro f u h;unfold Bh at h;refine aU<|aA Z<|aC Z<|aO<|aR ?_;cases h;exact iZ Z
def Gc (U:Nat) (c:fL) (d:Int) (a:bQ):Option (Int):=
 Option.bind (nK U ((at' c d).1) a) λb=>(some (b))
def BW (U:Nat) (d:cO) (h:bO) (e:Int) (f:fL) (g:Int) (i:Fy->bO->Int->Int->fL->Int->Option (Int)) (a:bQ×Int) (b:(bQ×Int)->Option (Int)):Option (Int):=
 ck (0<=e/\e<(d.2.length:Int)) (if a.2<((at' d.2 e).length:Int)then(Option.bind (i ((d.1,d.2)) h e a.2 f (wI .i64 (g+(1:Int)))) λc=>(ck ((a.1.length:Int)+(List.length ([c]):Int)<=1099511627) (b ((a.1++[c]),(wI .i64 (a.2+(1:Int)))))))else(Gc U f g (a.1)))
def nA (g:Fy->bO->Int->Int->fL->Int->Option (Int)) (U:Nat) (c:cO) (d:bO) (e f:Int) (a:fL) (b:Int):Option (Int):=
 ck (0<=b/\b<(a.length:Int)) (Option.bind (nP U ((at' a b).1)) λi=>(if i=(0:Int)then(ck (0<=b/\b<(a.length:Int)) (Option.bind (zL U ((c.1,c.2)) d e f ((((at' a b).1),((at' a b).2)))) λu=>(some (u))))else(if i=(1:Int)then(Option.bind (tJ U ((at' a b).1)) λh=>(if h=true then(bJ (BW U c d e a b g) U (([]:bQ),(0:Int)))else(Option.bind (g ((c.1,c.2)) d e f a (wI .i64 (b+(1:Int)))) λj=>(Option.bind (DN U ((at' a b).1) j) λk=>(some (k.1))))))else(if i=(2:Int)then(Option.bind (g ((c.1,c.2)) d e f a (wI .i64 (b+(1:Int)))) λl=>(Option.bind (m_ U a b (1:Int)) λm=>(Option.bind (g ((c.1,c.2)) d e f a m) λn=>(Option.bind (zK U ((at' a b).1) l n) λo=>(some (o.1))))))else(Option.bind (g ((c.1,c.2)) d e f a (wI .i64 (b+(1:Int)))) λp=>(if p≠(0:Int)then(Option.bind (m_ U a b (1:Int)) λq=>(Option.bind (g ((c.1,c.2)) d e f a q) λr=>(some (r))))else(Option.bind (m_ U a b (2:Int)) λs=>(Option.bind (g ((c.1,c.2)) d e f a s) λt=>(some (t))))))))))
def fH:Nat->Fy->bO->Int->Int->fL->Int->Option (Int)
 |0,_,_,_,_,_,_=>none
 |U+1,p0,p1,p2,p3,p4,p5=>nA (fH U) U p0 p1 p2 p3 p4 p5
theorem Ct:bB Tryz.prog 167:=Tryz.call167
theorem Pt (Q:Fy->bO->Int->Int->fL->Int->Option (Int)) (U:Nat) (d:∀{u:cO} {y:bO} {v A:Int} {t:fL} {q:Int} (f g:V0) (o:lE) (i:V0) (p:kD) (a:V0) (r:Int),Q u y v A t q=some r->bD Tryz.prog 167 #[Value.agg #[f,g],i,vI (v),vI (A),a,vI (q)] [Sl aN f u.1,S2 aX g o u.2,S2 aN i p y,Sl aX a t] (λx:Unit=>vI (r)) (λx l=>l) (λ_ l=>l)) {u:cO} {y:bO} {v A:Int} {t:fL} {q:Int} (f g:V0) (o:lE) (i:V0) (p:kD) (a:V0) (r:Int) (h:nA Q U u y v A t q=some r):
  bD Tryz.prog 167 #[Value.agg #[f,g],i,vI (v),vI (A),a,vI (q)] [Sl aN f u.1,S2 aX g o u.2,S2 aN i p y,Sl aX a t] (λx:Unit=>vI (r)) (λx l=>l) (λ_ l=>l):=by
 let w:=vI ((at' t q).1);refine bD.of Tryz.func167 Z Tryz.ntmps167 Z λc=>?_;refine aU<|aK (aP.box (cs:=[f,g]) Z Z) Z λb1=>aC Z<|aO<|aU<|aA Z<|aA Z<|cU h λj2 h=>aB (bE Z Z (Dh Z) Z Z j2) Z<|aB (cZ Z Z Z Z Z) Z<|aB (eL Z (Dh Z) Z Z Z gT j2) Z<|aC Z<|aO<|aL<|aU<|aA Z<|eT h λr3 w4 h=>aK (zBg OB (DY U r3 w4) Z .nil) Z λx5=>aO<|aS<|aU<|cC Z<|aC Z<|aO ?_;refine eN h Z (λh=>?_) λh=>?_
 ·refine aL ?_;refine sW [0,0,0,0,0,0,48,112,255,511] 8 mixedOrders ?_;refine jD 0 Z<|aV Z<|aV Z<|aV Z<|aV Z<|aV Z<|cU h λj7 h=>aY Z .nil (fN 3 Z) (bE Z Z (cA Z) Z Z j7) aJ.z<|aY Z .nil (fN 3 Z) (gU (cs:=[w,vI ((at' t q).2)]) Z (cA Z) cW Z Z Z Z j7) aJ.z<|bP 8 Z Z<|eT h λr8 w9 h=>aK (zBg aan (Px U f g o i p r8 w9) Z (iN [0,1,2] Z)) Z λaq=>aC Z<|aO<|aR<|bI<|aG ?_;cases h;exact nH Z
 refine aU<|cC Z<|aC Z<|aO ?_;refine eN h Z (λh=>?_) λh=>?_
 ·refine aL<|aU<|aA Z<|eT h λD S h=>aK (zBg aao (IS U D S) Z .nil) Z λar=>aO ?_;refine tC h Z (λ_ h=>?_) λ_ h=>?_
  ·refine aU<|aC Z<|aO<|aL<|EV (B:=V0) (λj=>Gc U t q j=some r) (λj k=>[(13,w),(14,k)]) (λj k=>[Ar fW k j]) ?_ ?_
   ·refine aU<|aC Z<|aO<|aS<|bW (eX fW)<|fI (B:=V0) (BW U u y v t q Q) (λb m=>[(1,i),(2,vI (v)),(4,a),(5,vI (q)),(6,vP b1),(13,w),(14,m),(15,vI (b.2))]) (λb m=>[bL b1 [f,g] 31,Ar fW m b.1]) (([]:bQ),(0:Int)) (cT) h SF (aZ.ix [1,0] Z Z) ?_;intro ao b m h;refine aL<|aU<|aA Z<|bU Z<|dQ 0 Z<|aA Z<|cU h λs h=>aB (bN Z Z (mM Z) Z Z s) Z<|aB (bT Z (mM Z) Z Z s) Z<|aB (fE Z (zBh (mM Z) s.1 s.2) Z) Z<|cV Z<|aO ?_;refine eN h Z (λh=>?_) λh=>?_
    ·refine cL<|aL<|aS<|aQ<|aA Z<|dM 0 Z<|aA Z<|aA Z<|aA Z<|aA Z<|aA Z<|cP Z<|eT h λn V h=>aK (zBg Ct (d f g o i p a n V) Z (iN [0,1,2,3] Z)) Z λav=>aK (cM (e:=fW) ([n]) [(0,vI (n))] Z Z Z Z (jO (vI (n)) Z) Z Z Z) Z λap=>cU h λC h=>aK (dN 2 jA Z Z Z (cB (aF.res 0 Z) jA) Z Z Z Z C Z) Z λR=>aC Z<|fJ<|lL<|aQ<|aA Z<|cP Z<|aC Z<|aO ?_;exact iG ((b.1++[n]),(wI .i64 (b.2+(1:Int)))) (R) h SF (aZ.ix [1,2] Z Z) (aI.refl _ _)
    refine fG ?_;exact cI (b.1) (m) h SF (aZ.ix [1] Z Z) (aI.refl _ _)
   intro j k h;refine aU<|aA Z<|aA Z<|eT h λE T h=>aK (zBg aap (Pv U k E T) Z (aI.cons (cB (aF.res 0 Z) jA) .nil)) Z λau=>aC Z<|aO<|aR<|aG<|bI<|aG ?_;cases h;exact nH Z
  refine cL<|aU<|aA Z<|dM 0 Z<|aA Z<|aA Z<|aA Z<|aA Z<|aA Z<|cP Z<|eT h λF W h=>aK (zBg Ct (d f g o i p a F W) Z (iN [0,1,2,3] Z)) Z λaw=>eT h λG X h=>aK (zBg aaq (MS U G X) Z .nil) Z λax=>aA Z<|jJ Z<|jJ Z<|aC Z<|aC Z<|aO<|aU<|aA Z<|aC Z<|aO<|aR<|bI<|aG ?_;cases h;exact nH Z
 refine aU<|cC Z<|aC Z<|aO ?_;refine eN h Z (λh=>?_) λh=>?_
 ·refine aL ?_;refine sW [0,0,0,0,0,0,0,64,254,0,0,0,0,0,0,0,49662,131070,262143,524287,1048575,1048575,2097151,8388607] 23 mixedOrders ?_;refine aV Z<|jD 0 Z<|aV Z<|aV Z<|aV Z<|aV Z<|aV Z<|gC Z (yT Z Z)<|eT h λH Y h=>zBi Z Z Z (zBg Ct (d f g o i p a H Y) Z (iN [0,1,2,3] Z)) Z (λai=>(mC [] Z)) λai=>aY Z (aZ.cons 0 Z .nil) .nil (gV 0 Z Z Z Z) (aJ.h (aZ.ix [0] Z Z) .nil aJ.z)<|gC Z (eO Z)<|gC Z (eO Z)<|gC Z (eO Z)<|gC Z (eO Z)<|gC Z (eO Z)<|gC Z (eO Z)<|eT h λI aa h=>zBi Z Z Z (zBg OC (Ck U a I aa) Z (iN [3] Z)) Z (λaj=>(mC [([0],[])] Z)) λaj=>eT h λJ ab h=>zBi Z Z Z (zBg Ct (d f g o i p a J ab) Z (iN [0,1,2,3] Z)) Z (λak=>(mC [] Z)) λak=>eT h λK ac h=>zBi Z Z Z (zBg aar (Mh U K ac) Z .nil) Z (λal=>(mC [] Z)) λal=>gC Z (eO Z)<|gC Z (qS Z Z)<|gC Z (qS Z Z)<|gC Z (yU Z)<|bP 23 Z Z<|aC Z<|aO<|aU<|aA Z<|aC Z<|aO<|aR<|bI<|aG ?_;cases h;exact nH Z
 refine eM<|lL<|aL<|aU<|dM 0 Z<|aA Z<|aA Z<|aA Z<|aA Z<|aA Z<|cP Z<|eT h λL ad h=>aK (zBg Ct (d f g o i p a L ad) Z (iN [0,1,2,3] Z)) Z λay=>k_ Z<|aO ?_;refine eN h Z (λh=>?_) λh=>?_
 ·refine aL ?_;refine sW [0,0,0,0,0,0,0,96,255,511] 8 mixedOrders ?_;refine jD 0 Z<|aV Z<|aV Z<|aV Z<|aV Z<|aV Z<|aV Z<|eT h λM ae h=>zBi Z Z Z (zBg OC (Ck U a M ae) Z (iN [3] Z)) Z (λam=>(mC [([0],[])] Z)) λam=>bP 8 Z Z<|eT h λN af h=>aK (zBg Ct (d f g o i p a N af) Z (iN [0,1,2,3] Z)) Z λaz=>aC Z<|aO<|aR<|aG ?_;cases h;exact nH Z
 refine cL<|aL ?_;refine sW [0,0,0,0,0,0,0,96,255,511] 8 mixedOrders ?_;refine jD 0 Z<|aV Z<|aV Z<|aV Z<|aV Z<|aV Z<|aV Z<|eT h λO ag h=>zBi Z Z Z (zBg OC (Ck U a O ag) Z (iN [3] Z)) Z (λan=>(mC [([0],[])] Z)) λan=>bP 8 Z Z<|eT h λP ah h=>aK (zBg Ct (d f g o i p a P ah) Z (iN [0,1,2,3] Z)) Z λaD=>aC Z<|aO<|aR ?_;cases h;exact nH Z
theorem Mg (U:Nat):∀{e:cO} {i:bO} {j:Int} {k:Int} {m:fL} {n:Int} (a:V0) (b:V0) (f:lE) (c:V0) (g:kD) (d:V0) (r:Int),fH U e i j k m n=some r->
  bD Tryz.prog 167 #[Value.agg #[a,b],c,vI (j),vI (k),d,vI (n)] [Sl aN a e.1,S2 aX b f e.2,S2 aN c g i,Sl aX d m] (λx:Unit=>vI (r)) (λx l=>l) (λ_ l=>l):=by
 induction U with
 |zero=>intros;rename_i h;cases h
 |succ U o=>exact λa b f c g d r h=>Pt (fH U) U o a b f c g d r h
end Go.Proofs.YtflciafboapaaaaGreat
namespace Go.Proofs.YtflciafboapaaaaGreat
open Go Go.Sx
def s_ (x:Int):Prop:= -1073741824<=x/\x<=1073741824
theorem Pa (f:Nat) {x:Int} (h:s_ x):oE f x=some true:=by
 unfold oE sQ;rw[if_pos h.1,zA5 h.2]
theorem PI (f:Nat) (b:Bool):dZ f b=some (Qn b):=by cases b<;>rfl
theorem Oz (b:Bool):s_ (Qn b):=by cases b<;>exact⟨by decide,by decide⟩
theorem Ut (f:Nat) (l:bQ) (x:Int) (h:l.length<f) (m:l.length<=1000):uK f l x=some (decide (x∈l)):=by
 unfold uK;have a:=SU (step:=pG l x) (K:=some false) (bad:=some true) l.length (λk=>at' l (k:Int)≠x) (λk=>(k:Int)) (λk g b d=>by
  unfold pG;rw[if_pos (by omega),cF (by omega),if_neg d,dD (by omega)]) (λk g b d=>by
  unfold pG;rw[if_pos (by omega),cF (by omega),if_pos (zAx.1 d)]) (λg=>by
  unfold pG xS;rw[if_neg (by omega)]) f h
 by_cases c:x∈l
 ·rw[zA5 c];refine a.2 λq=> ?_;obtain⟨i,j,e⟩:=List.mem_iff_getElem.1 c;exact q i j (by rw[jS j,e])
 ·rw[zA3 c];refine a.1 λk b e=>c ?_;rw[<-e,jS b];exact zBe b
abbrev F7:=Rq
def QF (l:bQ) (s:F7):F7:=
 (if at' l s.2.2.2.2.2.2≠0 then wI .i64 (s.1+1)else s.1,(if at' l s.2.2.2.2.2.2≠0/\s.2.1<0 then s.2.2.2.2.2.2 else s.2.1),min s.2.2.1 (at' l s.2.2.2.2.2.2),max s.2.2.2.1 (at' l s.2.2.2.2.2.2),max s.2.2.2.2.1 (min s.2.2.2.1 (at' l s.2.2.2.2.2.2)),wI .i64 (s.2.2.2.2.2.1+at' l s.2.2.2.2.2.2),wI .i64 (s.2.2.2.2.2.2+1))
def Re (l:bQ):Nat->F7
 |0=>(0,-1,1073741824,-1073741824,-1073741824,0,0)
 |k+1=>QF l (Re l k)
theorem Pq (l:bQ):∀k,k<=l.length->l.length<=1000->(Re l k).1=(((l.take k).countP nz:Nat):Int)/\(Re l k).2.2.2.2.2.2=(k:Int)
 |0,_,_=>⟨by simp[Re],rfl⟩
 |k+1,hk,hl=>by
  obtain⟨b,c⟩:=Pq l k (by omega) hl;have d:(l.take k).countP nz<=k:=zB1 List.countP_le_length (by simp;omega);unfold Re QF;dsimp only;rw[c,b,nW (by omega),List.countP_append,dD (by omega),dD (by omega)];refine⟨?_,rfl⟩
  by_cases a:at' l (k:Int)=0
  ·rw[if_neg (by simpa using a)];simp[nz,a]
  ·rw[if_pos a];simp[nz,a]
theorem Jo (f:Nat) (o:Int) (l:bQ) (h:l.length<f) (d:l.length<=1000):nK f o l=sZ f o l (((l.countP nz:Nat):Int),(Re l l.length).2.1,(Re l l.length).2.2.1,(Re l l.length).2.2.2.1,(Re l l.length).2.2.2.2.1,(Re l l.length).2.2.2.2.2.1):=by
 unfold nK;refine dJ (step:=nR f o l) l.length (Re l) (λk g n=> ?_) (λg=> ?_) f h
 ·have c:=(Pq l k (by omega) d).2;generalize i:Re l k=s at c;obtain⟨p,j,r,t,u,v,m⟩:=s;have c:m=(k:Int):=c;subst c;have e:Re l (k+1)=QF l (Re l k):=rfl;rw[e,i];unfold nR BB BD BC QF;dsimp only;rw[if_pos (by omega)];simp only[cF (show 0<=(k:Int)/\(k:Int)<(l.length:Int) by omega)];by_cases a:at' l (k:Int)=0
  ·rw[if_neg (by simpa using a),if_neg (by simpa using a),if_neg (by decide),if_neg (by simpa using a),if_neg (by simp[a])]
  ·rw[if_pos a,if_pos a,if_pos a];by_cases b:j<0
   ·rw[zA5 b,if_pos Z,if_pos ⟨a,b⟩]
   ·rw[zA3 b,if_neg (by decide),if_neg (λq=>b q.2)]
 ·obtain⟨b,c⟩:=Pq l l.length (zAe _) d;rw[zB3]at b;unfold nR;rw[c,if_neg (by omega),b]
theorem Nz (f:Nat) (o:Int) (l:bQ) (h:l.length<f) (b:l.length<=1000):∃a,nK f o l=sZ f o l (((l.countP nz:Nat):Int),a):=⟨_,Jo f o l h b⟩
theorem aaT (f:Nat) (l:bQ) (h:l.length<f) (b:l.length<=1000):nK f 21 l=some (Ir 21 l):=by
 obtain⟨a,e⟩:=Nz f 21 l h b;rw[e];unfold sZ;dsimp only;rw[if_neg (by decide),if_pos Z,bG (PI f _),Ir,if_neg (by decide),if_pos Z];have:(decide ((0:Int)<((l.countP nz:Nat):Int)))=l.any nz:=by
  rw[Bool.eq_iff_iff,zAa,List.any_eq_true,show((0:Int)<((l.countP nz:Nat):Int))↔0<l.countP nz by omega,List.countP_pos_iff]
 rw[this]
theorem aaU (f:Nat) (l:bQ) (h:l.length+2<f) (hl:l.length<=900):nK f 27 l=some ((LP l:Nat):Int):=by
 obtain⟨a,e⟩:=Nz f 27 l (by omega) (by omega);obtain⟨h1,h2,h3⟩:=LQ l;rw[e];unfold sZ;dsimp only;rw[if_neg (by decide),if_neg (by decide),if_neg (by decide),if_neg (by decide),if_neg (by decide),if_neg (by decide),if_neg (by decide),if_neg (by decide),if_pos Z];exact dJ (step:=wW f l) (K:=some ((LP l:Nat):Int)) (LP l) (λk=>(k:Int)) (λk ag hk=>by
  unfold wW;rw[bG (Ut f l (k:Int) (by omega) (by omega)),if_pos (by simpa using h2 k hk),dD (by omega)]) (λag=>by
  unfold wW BA;rw[bG (Ut f l _ (by omega) (by omega)),if_neg (by simpa using h1)]) f (by omega)
theorem acb {g:GR} {a:List D_} (b:jR g a) {x:Nat} (c:x<a.length) (v:Nat):lo g (at' a (x:Int)) v<=hi g (at' a (x:Int)) v:=by
 rcases b.kind x c with k|k|k
 ·have h:=(b.range x c k).2.1;unfold lo hi at h ⊢;rw[k]at h ⊢;simpa using h
 ·unfold lo hi;rw[k];simp
 ·unfold lo hi;rw[k];simp;omega
theorem Vj {g:GR} {a:List D_} (b:jR g a) {x:Nat} (c:x<a.length) (v:Nat) (y:Int):lo g (at' a (x:Int)) v<=FK (at' a (x:Int)).2.1 (qF g a v x) y/\FK (at' a (x:Int)).2.1 (qF g a v x) y<=hi g (at' a (x:Int)) v:=by
 have h:=acb b c v;unfold FK qF;dsimp only;split
 ·assumption
 ·split
  ·rename_i k;unfold lo hi;rw[k];simp;omega
  ·split<;>omega
end Go.Proofs.YtflciafboapaaaaGreat
namespace Go.Proofs.YtflciafboapaaaaGreat
open Go.Sx
def jK (U:Nat) (b:iF) (c:cO) (d a:Int):Option i_:=
 ck (0<=a/\a<(b.2.1.length:Int)) (if((at' b.2.1 a).2.1)=(2:Int)then(some ((0:Int),(1:Int)))else(if((at' b.2.1 a).2.1)=(3:Int)then(ck (0<=d/\d<(c.2.length:Int)) (some ((-1:Int),(wI .i64 (((at' c.2 d).length:Int) - (1:Int))))))else(ck (0<=a/\a<(b.2.1.length:Int)) (ck (0<=a/\a<(b.2.1.length:Int)) (ck (0<=a/\a<(b.2.1.length:Int)) (ck (0<=a/\a<(b.2.1.length:Int)) (Option.bind (jL U ((c.1,c.2))) λe=>(some (((at' b.2.1 a).2.2.1),(wI .i64 ((wI .i64 (((at' b.2.1 a).2.2.2.1)+(wI .i64 (((at' b.2.1 a).2.2.2.2.1)*(c.2.length:Int)))))+(wI .i64 (((at' b.2.1 a).2.2.2.2.2)*e)))))))))))))
theorem KH:bB Tryz.prog 100:=Tryz.call100
theorem CG (U:Nat) {a:iF} {j:cO} {t u:Int} (e f g i:V0) (v:lE) (r:gK) (h:jK U a j t u=some r):
  bD Tryz.prog 100 #[Value.agg #[vS (a.1),e,f],Value.agg #[g,i],vI (t),vI (u)] [Sl aH e a.2.1,Sl aE f a.2.2,PF (Value.agg #[vS a.1,e,f]),Sl aN g j.1,S2 aX i v j.2] (λx:Unit=>Value.tuple #[vI (r.1),vI (r.2)]) (λx l=>l) (λ_ l=>l):=by
 refine bD.of Tryz.func100 Z Tryz.ntmps100 Z λc=>?_;refine aU<|aK (aP.box (cs:=[vS (a.1),e,f]) Z Z) Z λw=>aK (aP.box (cs:=[g,i]) Z Z) Z λy=>aC Z<|aC Z<|aO<|aL<|aU<|bU Z<|dQ 1 Z<|aA Z<|cU h λo h=>aB (bE Z Z (cA Z) Z Z o) Z<|aB (cZ Z Z Z Z Z) Z<|aB (eL Z (cA Z) Z Z Z lR o) Z<|aO<|aS<|aU<|cC Z<|aC Z<|aO ?_;refine eN h Z (λh=>?_) λh=>?_
 ·refine aU<|aC Z<|aC Z<|aO<|aR<|bI<|aG ?_;cases h;exact hZ () Z Z (RV.tmp Z) (RV.tmp Z) .nil aI.nil
 refine aU<|cC Z<|aC Z<|aO ?_;refine eN h Z (λh=>?_) λh=>?_
 ·refine aL ?_;refine sW [0,1,0,7,15,31,63,0,255] 8 mixedOrders ?_;refine cH Z<|fO 0 Z<|aV Z<|cU h λd h=>aY Z .nil (fN 4 Z) (bN Z Z (cA Z) Z Z d) aJ.z<|aY Z .nil (fN 4 Z) (bT Z (cA Z) Z Z d) aJ.z<|aY Z .nil (fN 4 Z) (fE Z (zBh (cA Z) d.1 d.2) Z) aJ.z<|gC Z (nY Z Z)<|gC Z (yU Z)<|bP 8 Z Z<|aC Z<|aO<|aR<|bI<|aG ?_;cases h;exact hZ () Z Z (RV.tmp Z) (RV.tmp Z) .nil aI.nil
 refine eM<|lL<|aL ?_;refine sW [0,1,0,7,15,31,0,64,0,448,960,1984,0,4096,0,28672,61440,126976,0,262144,786432,2093056,4194240,0,8388608,0,58720256,125829120,260046848,0,536870912,2139095040,4294967232,1610612799,17179869183] 34 mixedOrders ?_;refine cH Z<|fO 1 Z<|aV Z<|cU h λp h=>aY Z .nil (fN 0 Z) (bE Z Z (cA Z) Z Z p) aJ.z<|gC Z (cZ Z Z Z Z Z)<|aY Z .nil (fN 0 Z) (eL Z (cA Z) Z Z Z AJ p) aJ.z<|cH Z<|fO 1 Z<|aV Z<|cU h λq h=>aY Z .nil (fN 0 Z) (bE Z Z (cA Z) Z Z q) aJ.z<|gC Z (cZ Z Z Z Z Z)<|aY Z .nil (fN 0 Z) (eL Z (cA Z) Z Z Z AK q) aJ.z<|cH Z<|fO 1 Z<|aV Z<|cU h λs h=>aY Z .nil (fN 0 Z) (bE Z Z (cA Z) Z Z s) aJ.z<|gC Z (cZ Z Z Z Z Z)<|aY Z .nil (fN 0 Z) (eL Z (cA Z) Z Z Z AL s) aJ.z<|cH Z<|fO 0 Z<|aY Z .nil (fN 4 Z) (dU Z (cA Z) Z) aJ.z<|gC Z (wB Z Z)<|gC Z (yT Z Z)<|cH Z<|fO 1 Z<|aV Z<|cU h λb h=>aY Z .nil (fN 0 Z) (bE Z Z (cA Z) Z Z b) aJ.z<|gC Z (cZ Z Z Z Z Z)<|aY Z .nil (fN 0 Z) (eL Z (cA Z) Z Z Z AM b) aJ.z<|jD 0 Z<|eT h λk m h=>zBi Z Z Z (zBg TQ (Ey U g i v k m) Z (iN [3,4] Z)) Z (λn=>(mC [([],[0]),([],[0]),([1],[]),([],[4]),([0],[]),([],[0]),([],[0]),([1],[]),([],[0]),([],[0]),([1],[]),([],[0]),([],[0]),([1],[])] Z)) λn=>gC Z (wB Z Z)<|gC Z (yT Z Z)<|gC Z (yU Z)<|bP 34 Z Z<|aC Z<|aO<|aR ?_;cases h;exact hZ () Z Z (RV.tmp Z) (RV.tmp Z) .nil aI.nil
def Bv (a:Unit):Option (Int):=
 some (0:Int)
def Bw (b:Int) (a:(Int)->Option (Int)) (c:Bool):Option (Int):=
 if c=true then(some (9:Int))else(a (wI .i64 (b+(1:Int))))
def sY (U:Nat) (c:iF) (f:cO) (a:Int) (b:(Int)->Option (Int)):Option (Int):=
 if a<(c.2.1.length:Int)then(Option.bind (jK U ((c.1,c.2.1,c.2.2)) ((f.1,f.2)) (0:Int) a) λd=>(ck (0<=a/\a<(c.2.1.length:Int)) (if((at' c.2.1 a).2.1)=(1:Int)then(Option.bind (gX U (wI .i64 (d.2 - d.1)) (0:Int) (4095:Int)) λe=>(Bw a b ((!e))))else(Bw a b (false)))))else(Bv (()))
def pR (U:Nat) (a:iF) (b:cO):Option (Int):=
 Option.bind (DL U ((a.1,a.2.1,a.2.2))) λc=>(if(!c)=true then(some (8:Int))else(Option.bind (iL U ((b.1,b.2))) λd=>(if(!d)=true then(some (1:Int))else(bJ (sY U a b) U (0:Int)))))
theorem TP:bB Tryz.prog 112:=Tryz.call112
theorem IT (U:Nat) {d:iF} {p:cO} (f g i j:V0) (z:lE) (r:Int) (h:pR U d p=some r):
  bD Tryz.prog 112 #[Value.agg #[vS (d.1),f,g],Value.agg #[i,j]] [Sl aH f d.2.1,Sl aE g d.2.2,PF (Value.agg #[vS d.1,f,g]),Sl aN i p.1,S2 aX j z p.2] (λx:Unit=>vI (r)) (λx l=>l) (λ_ l=>l):=by
 refine bD.of Tryz.func112 Z Tryz.ntmps112 Z λc=>?_;refine aU<|aK (aP.box (cs:=[vS (d.1),f,g]) Z Z) Z λs=>aK (aP.box (cs:=[i,j]) Z Z) Z λt=>aC Z<|aO<|aL<|aU<|dM 1 Z<|eT h λA C h=>aK (zBg TS (MP U f g A C) Z (iN [0,1,2] Z)) Z λG=>aB (kM Z) Z<|aO ?_;refine tC h Z (λ_ h=>?_) λ_ h=>?_
 ·refine aU<|aC Z<|aO<|aR<|aG ?_;cases h;exact nH Z
 refine cL<|aL<|aU<|dM 0 Z<|eT h λB D h=>aK (zBg Sw (DX U i j z B D) Z (iN [3,4] Z)) Z λH=>aB (kM Z) Z<|aO ?_;refine tC h Z (λ_ h=>?_) λ_ h=>?_
 ·refine aU<|aC Z<|aO<|aR<|aG ?_;cases h;exact nH Z
 refine cL<|aL<|eR (λe=>Bv e=some r) (λe k=>[]) (λe k=>[]) ?_ ?_
 ·refine aU<|aC Z<|aO<|aS<|fI (sY U d p) (λa m=>[(2,vP s),(3,vP t),(5,vI (a))]) (λa m=>[bL t [i,j] 31,bL s [vS (d.1),f,g] 36]) (0:Int) () h SF (aZ.refl _) ?_;intro u a m h;refine aL<|aU<|aA Z<|bU Z<|dQ 1 Z<|iH (cA Z) Z<|cV Z<|aO ?_;refine eN h Z (λh=>?_) λh=>?_
  ·refine cL<|aL<|aS<|aU<|dM 1 Z<|dM 0 Z<|aA Z<|eT h λv w h=>aK (zBg KH (CG U f g i j z v w) Z (iN [0,1,2,3,4] Z)) Z λE=>aA Z<|jJ Z<|jJ Z<|aC Z<|aC Z<|aO<|aL<|eR (λb=>Bw a (bJ (sY U d p) u) b=some r) (λb n=>[(2,vP s),(3,vP t),(5,vI (a)),(41,vB (b))]) (λb n=>[bL t [i,j] 31,bL s [vS (d.1),f,g] 36]) ?_ ?_
   ·refine aQ<|bU Z<|dQ 1 Z<|aA Z<|cU h λo h=>aB (bE Z Z (cA Z) Z Z o) Z<|aB (cZ Z Z Z Z Z) Z<|aB (eL Z (cA Z) Z Z Z lR o) Z<|cC Z<|aA Z ?_;refine BZ h Z (λ_ h=>?_) λ_ h=>?_
    ·refine dC Z<|dC Z<|aT Z (nY Z Z) Z<|eT h λq y h=>qH Z (zBg uF (jH U q y) Z .nil) Z λF=>aT Z (kM Z) Z<|dR Z<|aO ?_;exact fT ((!q)) () h SF Z
    refine aM Z<|aM Z<|aM Z<|aM Z<|aM Z<|eV Z<|aO ?_;exact fT (false) () h SF Z
   intro b n h;refine tC h Z (λ_ h=>?_) λ_ h=>?_
   ·refine aU<|aC Z<|aO<|aR<|bI<|aG<|aG<|bI<|aG ?_;cases h;exact nH Z
   refine eM<|lL<|aQ<|aA Z<|cP Z<|aC Z<|aO ?_;exact xY (wI .i64 (a+(1:Int))) () h SF Z
  refine fG ?_;exact cI () (()) h SF .nil (aI.refl _ _)
 intro e k h;unfold Bv at h;refine aU<|aC Z<|aO<|aR ?_;cases h;exact iZ Z
def uT (a:Unit):Option (Int):=
 some (0:Int)
def uU (b:Int) (a:(Int)->Option (Int)) (c:Unit):Option (Int):=
 a (wI .i64 (b+(1:Int)))
def oJ (U:Nat) (g:iF) (i:cO) (e:bO) (a:Int) (c:(Int)->Option (Int)) (b:Int) (d:(Int)->Option (Int)):Option (Int):=
 ck (0<=a/\a<(e.length:Int)) (if b<((at' e a).length:Int)then(Option.bind (jK U ((g.1,g.2.1,g.2.2)) ((i.1,i.2)) a b) λf=>(ck (0<=a/\a<(e.length:Int)) (ck (0<=b/\b<((at' e a).length:Int)) (Option.bind (gX U (at' (at' e a) b) f.1 f.2) λh=>(if(!h)=true then(some (10:Int))else(d (wI .i64 (b+(1:Int)))))))))else(uU a c (())))
def lB (U:Nat) (d:iF) (e:cO) (c:bO) (a:Int) (b:(Int)->Option (Int)):Option (Int):=
 if a<(c.length:Int)then(ck (0<=a/\a<(c.length:Int)) (if((at' c a).length:Int)≠(d.2.1.length:Int)then(some (10:Int))else(bJ (oJ U d e c a b) U (0:Int))))else(uT (()))
def mG (U:Nat) (a:iF) (b:cO) (c:bO):Option (Int):=
 Option.bind (pR U ((a.1,a.2.1,a.2.2)) ((b.1,b.2))) λd=>(if d≠(0:Int)then(some (d))else(if(c.length:Int)≠(b.2.length:Int)then(some (10:Int))else(bJ (lB U a b c) U (0:Int))))
theorem Xd:bB Tryz.prog 99:=Tryz.call99
theorem Hu (U:Nat) {i:iF} {y:cO} {E:bO} (n o p q:V0) (J:lE) (A:V0) (Q:kD) (r:Int) (h:mG U i y E=some r):
  bD Tryz.prog 99 #[Value.agg #[vS (i.1),n,o],Value.agg #[p,q],A] [Sl aH n i.2.1,Sl aE o i.2.2,PF (Value.agg #[vS i.1,n,o]),Sl aN p y.1,S2 aX q J y.2,S2 aN A Q E] (λx:Unit=>vI (r)) (λx l=>l) (λ_ l=>l):=by
 let m:=(lB U i y E)
 refine bD.of Tryz.func99 Z Tryz.ntmps99 Z λc=>?_;refine aU<|aK (aP.box (cs:=[vS (i.1),n,o]) Z Z) Z λC=>let j:=bL C [vS (i.1),n,o] 36;aK (aP.box (cs:=[p,q]) Z Z) Z λD=>let k:=bL D [p,q] 31;aC Z<|aO<|aL<|aU<|dM 1 Z<|dM 0 Z<|eT h λM N h=>aK (zBg TP (IT U n o p q J M N) Z (iN [0,1,2,3,4] Z)) Z λR=>aC Z<|aO<|aU<|aA Z<|k_ Z<|aO ?_
 refine eN h Z (λh=>?_) λh=>?_
 ·refine aU<|aA Z<|aC Z<|aO<|aR<|aG ?_;cases h;exact nH Z
 refine cL<|aL<|aU<|aA Z<|aB (dU Z (Di Z) Z) Z<|bU Z<|dQ 0 Z<|aB (dU Z (Ek Z) Z) Z<|k_ Z<|aO ?_;refine eN h Z (λh=>?_) λh=>?_
 ·refine aU<|aC Z<|aO<|aR<|aG ?_;cases h;exact nH Z
 refine cL<|aL<|eR (λB=>uT B=some r) (λB K=>[]) (λB K=>[]) ?_ ?_
 ·refine aU<|aC Z<|aO<|aS<|fI m (λa s=>[(2,A),(3,vP C),(4,vP D),(8,vI (a))]) (λa s=>[k,j]) (0:Int) () h SF (aZ.refl _) ?_;intro w a s h;refine aL<|aU<|aA Z<|aA Z<|aB (dU Z (Di Z) Z) Z<|cV Z<|aO ?_;refine eN h Z (λh=>?_) λh=>?_
  ·refine cL<|aL<|eR (λd=>uU a (bJ m w) d=some r) (λd t=>[(2,A),(3,vP C),(4,vP D),(8,vI (a))]) (λd t=>[k,j]) ?_ ?_
   ·refine aS<|aL<|aL ?_;refine sW [0,0,3,7,15,0,32,96,255] 8 mixedOrders ?_;refine aV Z<|aV Z<|cU h λf h=>aY Z .nil (fN 5 Z) (bN Z Z (cA Z) Z Z f) aJ.z<|aY Z .nil (fN 5 Z) (bT Z (cA Z) Z Z f) aJ.z<|aY Z .nil (fN 5 Z) (fE Z (zBh (cA Z) f.1 f.2) Z) aJ.z<|cH Z<|fO 1 Z<|aY Z .nil (fN 0 Z) (fE Z (cA Z) Z) aJ.z<|bP 8 Z Z<|k_ Z<|aO ?_;refine eN h Z (λh=>?_) λh=>?_
    ·refine aU<|aC Z<|aO<|aR<|aG<|bI<|aG<|aG<|bI<|aG ?_;cases h;exact nH Z
    refine cL<|aU<|aC Z<|aO<|aS<|fI (oJ U i y E a (bJ m w)) (λe u=>[(2,A),(3,vP C),(4,vP D),(8,vI (a)),(9,vI (e))]) (λe u=>[k,j]) (0:Int) () h SF (aZ.refl _) ?_;intro L e u h;refine aL<|aU<|aA Z<|aA Z<|aA Z<|cU h λg h=>aB (bN Z Z (Di Z) Z Z g) Z<|aB (bT Z (Di Z) Z Z g) Z<|aB (fE Z (zBh (Di Z) g.1 g.2) Z) Z<|cV Z<|aO ?_;refine eN h Z (λh=>?_) λh=>?_
    ·refine cL<|aL<|aS<|aU<|dM 1 Z<|dM 0 Z<|aA Z<|aA Z<|eT h λF H h=>aK (zBg KH (CG U n o p q J F H) Z (iN [0,1,2,3,4] Z)) Z λO=>aA Z<|jJ Z<|jJ Z<|aC Z<|aC Z<|aO<|aU<|aA Z<|aA Z<|cU h λb h=>aB (bN Z Z (Di Z) Z Z b) Z<|aB (bT Z (Di Z) Z Z b) Z<|aA Z<|cU h λv h=>aB (bE Z Z (zBh (Di Z) b.1 b.2) Z Z v) Z<|aB (cK Z (zBh (Di Z) b.1 b.2) Z Z Z eY v) Z<|aA Z<|aA Z<|eT h λG I h=>aK (zBg uF (jH U G I) Z .nil) Z λP=>aB (kM Z) Z<|aO ?_;refine tC h Z (λ_ h=>?_) λ_ h=>?_
     ·refine aU<|aC Z<|aO<|aR<|bI<|aG<|aG<|bI<|bI<|aG<|aG<|bI<|aG ?_;cases h;exact nH Z
     refine eM<|lL<|aQ<|aA Z<|cP Z<|aC Z<|aO ?_;exact xY (wI .i64 (e+(1:Int))) () h SF Z
    refine rP<|fX<|fX<|yQ<|lL ?_;exact fT () (()) h SF Z
   intro d t h;unfold uU at h;refine aQ<|aA Z<|cP Z<|aC Z<|aO ?_;exact xY (wI .i64 (a+(1:Int))) () h SF Z
  refine fG ?_;exact cI () (()) h SF .nil (aI.refl _ _)
 intro B K h;unfold uT at h;refine aU<|aC Z<|aO<|aR ?_;cases h;exact iZ Z
def zX (a:Unit):Option (Int):=
 some (-1:Int)
def uW (U:Nat) (c:iF) (e:cO) (f:bO) (g a:Int) (b:(Int)->Option (Int)):Option (Int):=
 if a<(c.2.2.length:Int)then(ck (0<=a/\a<(c.2.2.length:Int)) (Option.bind (fH U ((e.1,e.2)) f g (-1:Int) ((at' c.2.2 a).2.1.2) (0:Int)) λd=>(if d≠(0:Int)then(some (a))else(b (wI .i64 (a+(1:Int)))))))else(zX (()))
def nQ (U:Nat) (a:iF) (b:cO) (c:bO) (d:Int):Option (Int):=
 bJ (uW U a b c d) U (0:Int)
theorem TM:bB Tryz.prog 104:=Tryz.call104
theorem Hv (U:Nat) {b:iF} {k:cO} {o:bO} {m:Int} (e f g i:V0) (w:lE) (n:V0) (y:kD) (r:Int) (h:nQ U b k o m=some r):
  bD Tryz.prog 104 #[Value.agg #[vS (b.1),e,f],Value.agg #[g,i],n,vI (m)] [Sl aH e b.2.1,Sl aE f b.2.2,PF (Value.agg #[vS b.1,e,f]),Sl aN g k.1,S2 aX i w k.2,S2 aN n y o] (λx:Unit=>vI (r)) (λx l=>l) (λ_ l=>l):=by
 refine bD.of Tryz.func104 Z Tryz.ntmps104 Z λc=>?_;unfold nQ at h;refine aU<|aK (aP.box (cs:=[vS (b.1),e,f]) Z Z) Z λs=>aK (aP.box (cs:=[g,i]) Z Z) Z λt=>aC Z<|aO<|aL<|eR (λj=>zX j=some r) (λj u=>[]) (λj u=>[]) ?_ ?_
 ·refine aU<|aC Z<|aO<|aS<|fI (uW U b k o m) (λd v=>[(2,n),(3,vI (m)),(4,vP s),(5,vP t),(9,vI (d))]) (λd v=>[bL t [g,i] 31,bL s [vS (b.1),e,f] 36]) (0:Int) () h SF (aZ.refl _) ?_;intro B d v h;refine aL<|aU<|aA Z<|bU Z<|dQ 1 Z<|iH (mM Z) Z<|cV Z<|aO ?_;refine eN h Z (λh=>?_) λh=>?_
  ·refine cL<|aL<|aS<|aL ?_;refine sW [0,0,0,0,8,0,56,120,248,511,1023] 9 mixedOrders ?_;refine jD 0 Z<|aV Z<|aV Z<|cH Z<|fO 1 Z<|aV Z<|cU h λa h=>aY Z .nil (fN 1 Z) (bE Z Z (cA Z) Z Z a) aJ.z<|gC Z (cZ Z Z Z Z Z)<|aY Z .nil (fN 1 Z) (eL Z (cA Z) Z Z Z tE a) aJ.z<|bP 9 Z Z<|eT h λp q h=>aK (zBg Ct (Mg U g i w n y ((at' b.2.2 d).2.1.1) p q) Z (aI.cons (Dh Z) (aI.cons (Ek Z) (aI.cons (Di Z) (aI.cons (jW (mM Z) tG a.1 a.2) .nil))))) Z λA=>k_ Z<|aO ?_;refine eN h Z (λh=>?_) λh=>?_
   ·refine aU<|aA Z<|aC Z<|aO<|aR<|bI<|aG<|aG<|bI<|aG ?_;cases h;exact nH Z
   refine eM<|lL<|aQ<|aA Z<|cP Z<|aC Z<|aO ?_;exact xY (wI .i64 (d+(1:Int))) () h SF Z
  refine fG ?_;exact cI () (()) h SF .nil (aI.refl _ _)
 intro j u h;unfold zX at h;refine aU<|aC Z<|aO<|aR ?_;cases h;exact iZ Z
def zU (c:Int) (a:gK) (b:Bool):Option (Int):=
 if b=true then(some (-1:Int))else(some (min (max c a.1) a.2))
def wN (U:Nat) (a:iF) (f:cO) (g b d:Int):Option (Int):=
 Option.bind (jK U ((a.1,a.2.1,a.2.2)) ((f.1,f.2)) g b) λc=>(ck (0<=b/\b<(a.2.1.length:Int)) (if((at' a.2.1 b).2.1)=(3:Int)then(Option.bind (gX U d c.1 c.2) λe=>(zU d c ((!e))))else(zU d c (false))))
theorem aas:bB Tryz.prog 208:=Tryz.call208
theorem MQ (U:Nat) {a:iF} {n:cO} {q s i:Int} (f g k m:V0) (t:lE) (r:Int) (h:wN U a n q s i=some r):
  bD Tryz.prog 208 #[Value.agg #[vS (a.1),f,g],Value.agg #[k,m],vI (q),vI (s),vI (i)] [Sl aH f a.2.1,Sl aE g a.2.2,PF (Value.agg #[vS a.1,f,g]),Sl aN k n.1,S2 aX m t n.2] (λx:Unit=>vI (r)) (λx l=>l) (λ_ l=>l):=by
 refine bD.of Tryz.func208 Z Tryz.ntmps208 Z λc=>?_;refine aU<|aK (aP.box (cs:=[vS (a.1),f,g]) Z Z) Z λw=>aK (aP.box (cs:=[k,m]) Z Z) Z λy=>aC Z<|aO<|aU<|dM 1 Z<|dM 0 Z<|aA Z<|aA Z<|eT h λj u h=>aK (zBg KH (CG U f g k m t j u) Z (iN [0,1,2,3,4] Z)) Z λz=>aA Z<|jJ Z<|jJ Z<|aC Z<|aC Z<|aO<|aL<|aL<|eR (λb=>zU i j b=some r) (λb p=>[(4,vI (i)),(11,vI (j.1)),(12,vI (j.2)),(34,vB (b))]) (λb p=>[]) ?_ ?_
 ·refine aQ<|bU Z<|dQ 1 Z<|aA Z<|cU h λd h=>aB (bE Z Z (cA Z) Z Z d) Z<|aB (cZ Z Z Z Z Z) Z<|aB (eL Z (cA Z) Z Z Z lR d) Z<|cC Z<|aA Z ?_;refine BZ h Z (λ_ h=>?_) λ_ h=>?_
  ·refine dC Z<|dC Z<|dC Z<|eT h λe o h=>qH Z (zBg uF (jH U e o) Z .nil) Z λv=>aT Z (kM Z) Z<|dR Z<|aO ?_;exact cI ((!e)) () h SF .nil (aI.refl _ _)
  refine aM Z<|aM Z<|aM Z<|aM Z<|aM Z<|eV Z<|aO ?_;exact cI (false) () h SF .nil (aI.refl _ _)
 intro b p h;refine tC h Z (λ_ h=>?_) λ_ h=>?_
 ·refine aU<|aC Z<|aO<|aR<|aG ?_;cases h;exact iZ Z
 refine cL<|aU<|aA Z<|aA Z<|aB (Hj Z Z) Z<|aA Z<|aB (Nl Z Z) Z<|aC Z<|aO<|aR ?_;cases h;exact iZ Z
def BE (a:bQ):Option bQ:=
 some (a)
def wX (U:Nat) (b:iF) (e:cO) (i:bO) (h c:Int) (a:Int×bQ) (d:(Int×bQ)->Option bQ):Option bQ:=
 if a.1<(((at' b.2.2 c).2.2.2).length:Int)then(ck (0<=a.1/\a.1<(((at' b.2.2 c).2.2.2).length:Int)) (ck (0<=a.1/\a.1<(((at' b.2.2 c).2.2.2).length:Int)) (ck (0<=a.1/\a.1<(((at' b.2.2 c).2.2.2).length:Int)) (Option.bind (fH U ((e.1,e.2)) i h (-1:Int) ((at' ((at' b.2.2 c).2.2.2) a.1).2.2) (0:Int)) λf=>(Option.bind (wN U ((b.1,b.2.1,b.2.2)) ((e.1,e.2)) h ((at' ((at' b.2.2 c).2.2.2) a.1).1) f) λg=>(ck (0<=((at' ((at' b.2.2 c).2.2.2) a.1).1)/\((at' ((at' b.2.2 c).2.2.2) a.1).1)<(a.2.length:Int)) (d ((wI .i64 (a.1+(1:Int))),(List.set a.2 (Int.toNat ((at' ((at' b.2.2 c).2.2.2) a.1).1)) g)))))))))else(BE (a.2))
def zN (U:Nat) (b:iF) (d:cO) (c:bO) (a:Int):Option bQ:=
 ck (0<=a/\a<(c.length:Int)) (ck ((List.length ([]:bQ):Int)+((at' c a).length:Int)<=1099511627) (Option.bind (nQ U ((b.1,b.2.1,b.2.2)) ((d.1,d.2)) c a) λe=>(ck (0<=e/\e<(b.2.2.length:Int)) (bJ (wX U b d c a e) U ((0:Int),(([]:bQ)++(at' c a)))))))
theorem aaj:bB Tryz.prog 170:=Tryz.call170
theorem Pz (U:Nat) {e:iF} {A:cO} {B:bO} {t:Int} (i j k m:V0) (D:lE) (w:V0) (J:kD) (r:bQ) (h:zN U e A B t=some r):
  bD Tryz.prog 170 #[Value.agg #[vS (e.1),i,j],Value.agg #[k,m],w,vI (t)] [Sl aH i e.2.1,Sl aE j e.2.2,PF (Value.agg #[vS e.1,i,j]),Sl aN k A.1,S2 aX m D A.2,S2 aN w J B] (λx:V0=>x) (λx l=>Ar fW x r::l) (λ_ l=>l):=by
 refine bD.of Tryz.func170 Z Tryz.ntmps170 Z λc=>?_;refine aU<|aK (aP.box (cs:=[vS (e.1),i,j]) Z Z) Z λK=>aK (aP.box (cs:=[k,m]) Z Z) Z λL=>aC Z<|aO<|aU<|aA Z<|aA Z<|cU h λy h=>aB (bN Z Z (Di Z) Z Z y) Z<|aB (bT Z (Di Z) Z Z y) Z<|bW (eX fW)<|cU h λM h=>aK (dN 0 jA Z Z Z (zBh (Di Z) y.1 y.2) Z Z Z Z M Z) Z λv=>aC Z<|aO<|aL ?_;refine sW [0,1,0,0,0,0,60,127,255,511,1023] 7 mixedOrders ?_;refine cH Z<|fO 2 Z<|jD 2 Z<|jD 1 Z<|aV Z<|aV Z<|eT h λC O h=>zBi Z Z Z (zBg TM (Hv U i j k m D w J C O) Z (iN [0,1,2,3,4,5] Z)) Z (λP=>(mC [([2],[])] Z)) λP=>bP 7 Z Z<|cU h λa h=>aB (bE Z Z (mM Z) Z Z a) Z<|aB (cZ Z Z Z Z Z) Z<|aB (eL Z (mM Z) Z Z Z tF a) Z<|aC Z<|aO<|aL<|eR (λd=>BE d=some r) (λd n=>[(9,v)]) (λd n=>[Ar fW v d]) ?_ ?_
 ·refine aU<|aC Z<|aO<|aS<|fI (wX U e A B t C) (λb o=>[(2,w),(3,vI (t)),(4,vP K),(5,vP L),(9,v),(10,(at' e.2.2 C).2.2.1),(11,vI (b.1))]) (λb o=>[Ar fW v b.2,bL L [k,m] 31,bL K [vS (e.1),i,j] 36]) ((0:Int),(([]:bQ)++(at' B t))) () h SF (aZ.refl _) ?_;intro N b o h;let u:=(at' ((at' e.2.2 C).2.2.2) b.1)
  refine aL<|aU<|aA Z<|aA Z<|aB (fE Z (jW (mM Z) cQ a.1 a.2) Z) Z<|cV Z<|aO ?_;refine eN h Z (λh=>?_) λh=>?_
  ·refine cL<|aL<|aS ?_;refine sW [0,0,0,6,14,30,0,0,0,0,0,1536,3584,7680,0,0,0,0,0,393216,917504,1966080,4177920,8388544,16777215,33554431] 24 mixedOrders ?_;refine aV Z<|aV Z<|aV Z<|cU h λp h=>aY Z .nil (fN 1 Z) (bE Z Z (jW (cA Z) cQ a.1 a.2) Z Z p) aJ.z<|gC Z (cZ Z Z Z Z Z)<|aY Z .nil (fN 1 Z) (eL Z (jW (cA Z) cQ a.1 a.2) Z Z Z Fp p) aJ.z<|jD 2 Z<|jD 1 Z<|aV Z<|aV Z<|aV Z<|cU h λq h=>aY Z .nil (fN 1 Z) (bE Z Z (jW (cA Z) cQ a.1 a.2) Z Z q) aJ.z<|gC Z (cZ Z Z Z Z Z)<|aY Z .nil (fN 1 Z) (eL Z (jW (cA Z) cQ a.1 a.2) Z Z Z Fp q) aJ.z<|jD 1 Z<|aV Z<|aV Z<|aV Z<|aV Z<|cU h λf h=>aY Z .nil (fN 1 Z) (bE Z Z (jW (cA Z) cQ a.1 a.2) Z Z f) aJ.z<|gC Z (cZ Z Z Z Z Z)<|aY Z .nil (fN 1 Z) (eL Z (jW (cA Z) cQ a.1 a.2) Z Z Z Kq f) aJ.z<|eT h λE F h=>zBi Z Z Z (zBg Ct (Mg U k m D w J (u.2.1) E F) Z (aI.cons (Dh Z) (aI.cons (Ek Z) (aI.cons (Di Z) (aI.cons (jW (jW (mM Z) cQ a.1 a.2) Ca f.1 f.2) .nil))))) Z (λH=>(mC [([],[1]),([],[1]),([1],[]),([2],[]),([],[1]),([],[1])] Z)) λH=>eT h λg G h=>zBi Z Z Z (zBg aas (MQ U i j k m D g G) Z (iN [0,1,2,3,4] Z)) Z (λI=>(mC [([],[1]),([],[1])] Z)) λI=>bP 24 Z Z<|cU h λs h=>aB (bE Z Z (cB (aF.res 0 Z) jA) Z Z s) Z<|Le 0 g s Z Z Z Z Z Z Z<|fJ<|lL<|aQ<|aA Z<|cP Z<|aC Z<|aO ?_;exact xY ((wI .i64 (b.1+(1:Int))),(List.set b.2 (Int.toNat (u.1)) g)) () h SF Z
  refine fG ?_;exact cI (b.2) () h SF (aZ.ix [0] Z Z) (aI.refl _ _)
 intro d n h;unfold BE at h;refine aU<|aA Z<|aC Z<|aO<|aR ?_;cases h;exact iS (v) Z Z (RV.tmp Z) (aZ.refl _) aI.nil
def zM (U:Nat) (a:iF) (b:cO) (c:bO) (d:Int):Option (bQ×Int):=
 Option.bind (mG U ((a.1,a.2.1,a.2.2)) ((b.1,b.2)) c) λg=>(if g≠(0:Int)then(some (([]:bQ),g))else(Option.bind (gX U d (0:Int) (wI .i64 ((c.length:Int) - (1:Int)))) λh=>(if(!h)=true then(some (([]:bQ),(2:Int)))else(Option.bind (nQ U ((a.1,a.2.1,a.2.2)) ((b.1,b.2)) c d) λe=>(if e<(0:Int)then(some (([]:bQ),(11:Int)))else(Option.bind (zN U ((a.1,a.2.1,a.2.2)) ((b.1,b.2)) c d) λf=>(some (f,(0:Int)))))))))
theorem ZX:bB Tryz.prog 113:=Tryz.call113
theorem Py (U:Nat) {d:iF} {k:cO} {s:bO} {t:Int} (a b e f:V0) (i:lE) (g:V0) (j:kD) (r:bQ×Int) (h:zM U d k s t=some r):
  bD Tryz.prog 113 #[Value.agg #[vS (d.1),a,b],Value.agg #[e,f],g,vI (t)] [Sl aH a d.2.1,Sl aE b d.2.2,PF (Value.agg #[vS d.1,a,b]),Sl aN e k.1,S2 aX f i k.2,S2 aN g j s] (λx:V0=>Value.tuple #[x,vI (r.2)]) (λx l=>Ar fW x r.1::l) (λ_ l=>l):=by
 refine bD.of Tryz.func113 Z Tryz.ntmps113 Z λc=>?_;refine aU<|aK (aP.box (cs:=[vS (d.1),a,b]) Z Z) Z λA=>aK (aP.box (cs:=[e,f]) Z Z) Z λB=>aC Z<|aC Z<|aO<|aL<|aU<|dM 1 Z<|dM 0 Z<|aA Z<|eT h λu w h=>aK (zBg Xd (Hu U a b e f i g j u w) Z (iN [0,1,2,3,4,5] Z)) Z λC=>aC Z<|aO<|aU<|aA Z<|k_ Z<|aO ?_;refine eN h Z (λh=>?_) λh=>?_
 ·refine aU<|aA Z<|aC Z<|aC Z<|aO<|aR<|aG<|bW (eX fW) ?_;cases h;exact hZ (cT) Z Z (RV.tmp Z) (RV.tmp Z) (aZ.ix [0] Z Z) aI.nil
 refine cL<|aL<|aU<|aA Z<|aA Z<|aB (dU Z (Di Z) Z) Z<|aB (nY Z Z) Z<|eT h λv y h=>aK (zBg uF (jH U v y) Z .nil) Z λD=>aB (kM Z) Z<|aO ?_;refine tC h Z (λ_ h=>?_) λ_ h=>?_
 ·refine aU<|aC Z<|aC Z<|aO<|aR<|aG<|bW (eX fW) ?_;cases h;exact hZ (cT) Z Z (RV.tmp Z) (RV.tmp Z) (aZ.ix [0] Z Z) aI.nil
 refine cL<|aL<|aU<|dM 1 Z<|dM 0 Z<|aA Z<|aA Z<|eT h λm o h=>aK (zBg TM (Hv U a b e f i g j m o) Z (iN [0,1,2,3,4,5] Z)) Z λz=>cV Z<|aO ?_;refine eN h Z (λh=>?_) λh=>?_
 ·refine aU<|aC Z<|aC Z<|aO<|aR<|aG<|bW (eX fW) ?_;cases h;exact hZ (cT) Z Z (RV.tmp Z) (RV.tmp Z) (aZ.ix [0] Z Z) aI.nil
 refine cL<|aU<|dM 1 Z<|dM 0 Z<|aA Z<|aA Z<|eT h λn p h=>aK (zBg aaj (Pz U a b e f i g j n p) Z (iN [0,1,2,3,4,5] Z)) Z λq=>aC Z<|aC Z<|aO<|aR ?_;cases h;exact hZ (q) Z Z (RV.tmp Z) (RV.tmp Z) (aZ.ix [0] Z Z) aI.nil
def wO (U:Nat) (a:iF) (b:cO) (c:bO):Option Bool:=
 Option.bind (mG U ((a.1,a.2.1,a.2.2)) ((b.1,b.2)) c) λd=>(some (decide (d=(0:Int))))
theorem acU:bB Tryz.prog 53:=Tryz.call53
theorem MR (U:Nat) {a:iF} {g:cO} {j:bO} (b d e f:V0) (k:lE) (i:V0) (m:kD) (r:Bool) (h:wO U a g j=some r):
  bD Tryz.prog 53 #[Value.agg #[vS (a.1),b,d],Value.agg #[e,f],i] [Sl aH b a.2.1,Sl aE d a.2.2,PF (Value.agg #[vS a.1,b,d]),Sl aN e g.1,S2 aX f k g.2,S2 aN i m j] (λx:Unit=>vB (r)) (λx l=>l) (λ_ l=>l):=by
 refine bD.of Tryz.func53 Z Tryz.ntmps53 Z λc=>?_;refine aU<|aK (aP.box (cs:=[vS (a.1),b,d]) Z Z) Z λp=>aK (aP.box (cs:=[e,f]) Z Z) Z λq=>aC Z<|aO<|aU<|dM 1 Z<|dM 0 Z<|aA Z<|eT h λn o h=>aK (zBg Xd (Hu U b d e f k i m n o) Z (iN [0,1,2,3,4,5] Z)) Z λs=>cC Z<|aC Z<|aO<|aR ?_;cases h;exact nH Z
def By (a:bO):Option bO:=
 some (a)
def wU (c:bO) (a:bO×Int) (b:(bO×Int)->Option bO):Option bO:=
 if a.2<(c.length:Int)then(ck (0<=a.2/\a.2<(c.length:Int)) (ck ((List.length ([]:bQ):Int)+((at' c a.2).length:Int)<=1099511627) (ck ((a.1.length:Int)+(List.length ([(([]:bQ)++(at' c a.2))]):Int)<=1099511627) (b ((a.1++([(([]:bQ)++(at' c a.2))])),(wI .i64 (a.2+(1:Int))))))))else(By (a.1))
def nJ (U:Nat) (a:bO):Option bO:=
 bJ (wU a) U (([]:bO),(0:Int))
theorem KI:bB Tryz.prog 105:=Tryz.call105
theorem CI (U:Nat) {o:bO} (v:V0) (z:kD) (r:bO) (h:nJ U o=some r):
  bD Tryz.prog 105 #[v] [S2 aN v z o] (λx:Fx=>x.1) (λx l=>Ar bM.raw x.1 x.2::gN fW x.2 r::l) (λ_ l=>l):=by
 refine bD.of Tryz.func105 Z Tryz.ntmps105 Z λc=>?_;unfold nJ at h;refine aU<|aC Z<|aO<|aU<|aC Z<|aO<|aL<|EV (B:=Fx) (λm=>By m=some r) (λm g=>[(3,g.1)]) (λm g=>[Ar bM.raw g.1 g.2,gN fW g.2 m]) ?_ ?_
 ·refine aU<|aC Z<|aO<|aS<|bW (eX bM.raw) (bW (iA fW) ?_);refine fI (B:=Fx) (wU o) (λb a=>[(0,v),(3,a.1),(4,vI (b.2))]) (λb a=>[Ar bM.raw a.1 a.2,gN fW a.2 b.1]) (([]:bO),(0:Int)) ((cT),([]:fY)) h SF (aZ.ix [1,0] Z Z) ?_;intro w b a h;refine aL<|aU<|aA Z<|aA Z<|aB (dU Z (cA Z) Z) Z<|cV Z<|aO ?_;refine eN h Z (λh=>?_) λh=>?_
  ·refine cL<|aL<|aS<|aQ<|aA Z<|aA Z<|aA Z<|cU h λd h=>aB (bN Z Z (cA Z) Z Z d) Z<|aB (bT Z (cA Z) Z Z d) Z<|bW (eX fW)<|cU h λp h=>aK (dN 0 jA Z Z Z (zBh (cA Z) d.1 d.2) Z Z Z Z p Z) Z λf=>bW (iA fW)<|bF (Know.one ((cB (aF.res 1 Z) jA))) λk=>bW (rQ 0 1 Z Z Z) ?_;refine aK (cM (e:=bM.raw) [f] [(0,f)] Z Z Z Z (jO (f) k) Z Z (by simp[cellsOf,bM.raw,k])) Z λy=>?_;refine bF (dX 3 Z) λi=>bF (dX 1 Z) λj=>cU h λn h=>bW (nO 3 1 Z Z Z) ?_;refine aK (aP.append 1 0 Z Z Z Z Z Z Z (by have q:=n;have s:=i;have t:=j;(try simp only[zA9,zAg]at q s t ⊢);omega) (by have q:=n;have s:=i;have t:=j;(try simp only[zA9,zAg]at q s t ⊢);omega) Z) Z λu=>?_;refine aC Z<|fJ<|lL<|aQ<|aA Z<|cP Z<|aC Z<|aO ?_;exact iG ((b.1++([(([]:bQ)++(at' o b.2))])),(wI .i64 (b.2+(1:Int)))) (u,(a.2++[f])) h SF (aZ.ix [1,2] Z Z) (aI.refl _ _)
  refine fG ?_;exact fT (b.1) (a.1,a.2) h SF Z
 intro m g h;unfold By at h;refine aU<|aA Z<|aC Z<|aO<|aR ?_;cases h;exact iS (g.1,g.2) Z Z (RV.tmp Z) (aZ.refl _) aI.nil
end Go.Proofs.YtflciafboapaaaaGreat