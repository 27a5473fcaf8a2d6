/- Models and proofs. Conditions: none. -/
import Derived.Test.YtjkjpdonlpdcaaaGreatDoorZTLe5
import Derived.Test.YtjkjpdonlpdcaaaGreatDoorZTLe6
import Derived.Test.YtjkjpdonlpdcaaaGreatDoorZTLe2
set_option linter.unusedVariables false
set_option linter.unusedSimpArgs false
set_option maxHeartbeats 4000000
set_option maxRecDepth 20000
namespace Go.Proofs.YtjkjpdonlpdcaaaGreatDoor
open Go.Sx
def xC  (a:Unit):Option (Int):=
 some (0:Int)
def pK (b:Int) (a:(Int)->Option (Int)) (c:Unit):Option (Int):=
 a (wI .i64 (b+(1:Int)))
def xD (b:Int) (a:(Int)->Option (Int)) (c:Bool):Option (Int):=
 if c=true then(some (9:Int))else(pK b a (()))
def mM (U:Nat) (c:Ca) (e:cB) (a:Int) (b:(Int)->Option (Int)):Option (Int):=
 if a<(List.length c.2.1:Int)then(ck (0<=a∧a<(List.length c.2.1:Int)) (if((at' c.2.1 a).2.1)≠(1:Int)then(pK a b (()))else(Option.bind (j_ U ((((at' c.2.1 a).1),((at' c.2.1 a).2.1),((at' c.2.1 a).2.2.1),((at' c.2.1 a).2.2.2.1),((at' c.2.1 a).2.2.2.2.1),((at' c.2.1 a).2.2.2.2.2))) ((e.1,e.2)) (0:Int)) λd=>(if d.2<d.1 then(xD a b (true))else(xD a b (decide ((4096:Int)<(wI .i64 ((wI .i64 (d.2 - d.1))+(1:Int))))))))))else(xC  (()))
def uA (U:Nat) (a:Ca) (b:cB):Option (Int):=
 Option.bind (BE U ((a.1,a.2.1,a.2.2))) λc=>(if(!c)=true then(some (8:Int))else(Option.bind (eM U ((b.1,b.2))) λd=>(if(!d)=true then(some (1:Int))else(bP (mM U a b) U (0:Int)))))
theorem Xw:aQ Tryz.prog 160:=Tryz.call160
theorem JY (U:Nat) {b:Ca} {n:cB} (g:Value)  (v:Value)  (i:Value)  (j:Value)  (y:mH) (r:Int) (h:uA U b n=some r):
  bA Tryz.prog 160 #[Value.agg #[vS (b.1),g,v],Value.agg #[i,j]] [Sl aW g b.2.1,Sl aM v b.2.2,PF (Value.agg #[vS b.1,g,v]),Sl bN i n.1,S2 aO j y n.2] (λx:Unit=>vI (r)) (λx l=>l) (λ_ l=>l):=by
 refine bA.of Tryz.func160 Z Tryz.ntmps160 Z λc=>?_;refine aS<|aG (aJ.box (cs:=[vS (b.1),g,v]) Z Z) Z λF=>aG (aJ.box (cs:=[i,j]) Z Z) Z λm=>aC Z<|aK<|aI<|aS<|dM 1 Z<|eL h λA C h=>aG (aJ.callQ Qx (Kc U g v A C) Z (lJ [0,1,2] Z)) Z λG=>aB (iZ Z) Z<|aK ?_;refine yC h Z (λ_ h=>?_) λ_ h=>?_
 ·refine aS<|aC Z<|aK<|aP<|aH ?_;cases h;exact sV Z
 refine cE<|aI<|aS<|dM 0 Z<|eL h λB D h=>aG (aJ.callQ Gv (rO U i j y B D) Z (lJ [3,4] Z)) Z λH=>aB (iZ Z) Z<|aK ?_;refine yC h Z (λ_ h=>?_) λ_ h=>?_
 ·refine aS<|aC Z<|aK<|aP<|aH ?_;cases h;exact sV Z
 refine cE<|aI<|d_ (λe=>xC  e=some r) (λe o=>[]) (λe o=>[]) ?_ ?_
 ·refine aS<|bX Z<|cJ 1 Z<|iH (aE.fact 0 Z) Z<|aA Z<|aK<|aU<|eH (mM U b n) (λa p=>[(3,vP m),(16,g),(17,vI (List.length b.2.1:Int)),(18,vI (a))]) (λa p=>[bH m [i,j] 27]) (0:Int) () h SF (aY.ix [0] Z Z) ?_;intro u a p h;refine aS<|cP Z<|aK<|aI ?_;refine eZ h Z (λh=>?_) λh=>?_
  ·refine cE<|aI<|d_ (λf=>pK a (bP (mM U b n) u) f=some r) (λf q=>[(3,vP m),(16,g),(17,vI (List.length b.2.1:Int)),(18,vI (a))]) (λf q=>[bH m [i,j] 27]) ?_ ?_
   ·refine aU<|aS<|dK h λt h=>aB (aZ Z Z (aE.fact 0 Z) Z Z t) Z<|aB (c_ (cs:=[vS ((at' b.2.1 a).1),vI ((at' b.2.1 a).2.1),vI ((at' b.2.1 a).2.2.1),vI ((at' b.2.1 a).2.2.2.1),vI ((at' b.2.1 a).2.2.2.2.1),vI ((at' b.2.1 a).2.2.2.2.2)]) Z (aE.fact 0 Z) fJ Z Z Z Z t) Z<|aG (aJ.alloc (cs:=vD4) Z Z) Z λz=>bR 0 (vs:=[vS ((at' b.2.1 a).1),vI ((at' b.2.1 a).2.1),vI ((at' b.2.1 a).2.2.1),vI ((at' b.2.1 a).2.2.2.1),vI ((at' b.2.1 a).2.2.2.2.1),vI ((at' b.2.1 a).2.2.2.2.2)]) Z Z Z Z Z Z<|aK<|aI<|aS<|bX Z<|cJ 0 Z<|oT Z<|aK ?_;refine eZ h Z (λh=>?_) λh=>?_
    ·refine yJ<|iQ<|BK<|Bc ?_;exact bT () (()) h SF (aY.ix [1] Z Z) (aD.refl _ _)
    refine cE<|aS<|dM 0 Z<|dM 1 Z<|eL h λk w h=>aG (aJ.callQ Qr (CQ U i j y k w) Z (lJ [3,4] Z)) Z λE=>aA Z<|iG Z<|iG Z<|aC Z<|aC Z<|aK<|aI<|d_ (λd=>xD a (bP (mM U b n) u) d=some r) (λd s=>[(3,vP m),(16,g),(17,vI (List.length b.2.1:Int)),(18,vI (a)),(40,vB (d))]) (λd s=>[bH m [i,j] 27]) ?_ ?_
    ·refine aR<|aA Z<|aA Z<|cP Z<|aA Z ?_;refine Cd h Z (λ_ h=>?_) λ_ h=>?_
     ·refine aL Z<|aL Z<|aL Z<|aL Z<|aL Z<|dU Z<|aK ?_;exact bT (true) () h SF (aY.ix [1] Z Z) (aD.refl _ _)
     refine eS Z<|eS Z<|aV Z (mJ Z Z) Z<|aV Z (zX Z Z) Z<|aV Z (Ah Z Z) Z<|e_ Z<|aK ?_;exact bT (decide ((4096:Int)<(wI .i64 ((wI .i64 (k.2 - k.1))+(1:Int))))) () h SF (aY.ix [1] Z Z) (aD.refl _ _)
    intro d s h;refine yC h Z (λ_ h=>?_) λ_ h=>?_
    ·refine aS<|aC Z<|aK<|aP<|bO<|aH<|aH<|bO<|aH ?_;cases h;exact sV Z
    refine dJ<|mP ?_;exact iI () (()) h SF Z
   intro f q h;unfold pK at h;refine aR<|cO Z<|aA Z<|aK ?_;exact Ai (wI .i64 (a+(1:Int))) () h SF Z
  refine fE ?_;exact bT () (()) h SF .nil (aD.refl _ _)
 intro e o h;unfold xC at h;refine aS<|aC Z<|aK<|aP ?_;cases h;exact kM Z
def vD  (a:Unit):Option (Bool):=
 some (true)
def vE (c:Int) (b:(Int)->Option (Bool)) (a:Bool):Option (Bool):=
 if a=true then(some (false))else(b (wI .i64 (c+(1:Int))))
def nZ (c:b_) (d:aT) (a:Int) (b:(Int)->Option (Bool)):Option (Bool):=
 if a<(List.length d:Int)then(ck (0<=a∧a<(List.length d:Int)) (ck (0<=a∧a<(List.length c:Int)) (if(at' d a)<((at' c a).1)then(vE a b (true))else(ck (0<=a∧a<(List.length c:Int)) (vE a b (decide (((at' c a).2)<(at' d a))))))))else(vD  (()))
def xS (U:Nat) (a:b_) (b:aT):Option (Bool):=
 if(List.length b:Int)≠(List.length a:Int)then(some (false))else(bP (nZ a b) U (0:Int))
theorem XF:aQ Tryz.prog 216:=Tryz.call216
theorem JH (U:Nat) {k:b_} {d:aT} (n:Value)  (o:Value) (r:Bool) (h:xS U k d=some r):
  bA Tryz.prog 216 #[n,o] [Sl aO n k,Sl bN o d] (λx:Unit=>vB (r)) (λx l=>l) (λ_ l=>l):=by
 refine bA.of Tryz.func216 Z Tryz.ntmps216 Z λc=>?_;refine aS<|aC Z<|aK<|aI<|aS<|aA Z<|iH (aE.fact 1 Z) Z<|aA Z<|iH (aE.fact 0 Z) Z<|oT Z<|aK ?_;refine eZ h Z (λh=>?_) λh=>?_
 ·refine aS<|aC Z<|aK<|aP<|aH ?_;cases h;exact kM Z
 refine cE<|aI<|d_ (λm=>vD  m=some r) (λm p=>[]) (λm p=>[]) ?_ ?_
 ·refine aS<|aA Z<|iH (aE.fact 1 Z) Z<|aA Z<|aK<|aU<|eH (nZ k d) (λb q=>[(0,n),(12,o),(13,vI (List.length d:Int)),(14,vI (b))]) (λb q=>[]) (0:Int) () h SF (aY.refl _) ?_;intro s b q h;refine aS<|cP Z<|aK<|aI ?_;refine eZ h Z (λh=>?_) λh=>?_
  ·refine cE<|aI<|aU<|aS<|aA Z<|dK h λf h=>aB (aZ Z Z (aE.fact 1 Z) Z Z f) Z<|aB (bU Z (aE.fact 1 Z) Z Z Z cS f) Z<|aC Z<|aC Z<|aK<|aI<|d_ (λa=>vE b (bP (nZ k d) s) a=some r) (λa e=>[(0,n),(12,o),(13,vI (List.length d:Int)),(14,vI (b)),(34,vB (a))]) (λa e=>[]) ?_ ?_
   ·refine aR<|aA Z<|aA Z<|aA Z<|dK h λg h=>aB (aZ Z Z (aE.fact 0 Z) Z Z g) Z ?_;refine aB (pG (i:=0) Z Z Z Z Z (by decide)) Z ?_;refine aB (jK Z (aE.fact 0 Z) Z Z Z oM g) Z<|cP Z<|aA Z ?_;refine Cd h Z (λ_ h=>?_) λ_ h=>?_
    ·refine aL Z<|aL Z<|aL Z<|aL Z<|aL Z<|aL Z<|aL Z<|dU Z<|aK ?_;exact iI (true) () h SF Z
    refine eS Z<|eS Z<|eS Z<|dK h λj h=>aV Z (aZ Z Z (aE.fact 0 Z) Z Z j) Z ?_;refine aV Z (pG (i:=1) Z Z Z Z Z (by decide)) Z ?_;refine aV Z (jK Z (aE.fact 0 Z) Z Z Z Ch j) Z<|aV Z (Ah Z Z) Z<|e_ Z<|aK ?_;exact iI (decide (((at' k b).2)<(at' d b))) () h SF Z
   intro a e h;refine yC h Z (λ_ h=>?_) λ_ h=>?_
   ·refine aS<|aC Z<|aK<|aP<|bO<|aH<|aH<|bO<|aH ?_;cases h;exact kM Z
   refine dJ<|mP<|aR<|cO Z<|aA Z<|aK ?_;exact Ai (wI .i64 (b+(1:Int))) () h SF Z
  refine fE ?_;exact iI () (()) h SF Z
 intro m p h;unfold vD at h;refine aS<|aC Z<|aK<|aP ?_;cases h;exact kM Z
def tG  (a:Unit):Option (Bool):=
 some (true)
def pX (U:Nat) (c:gH) (e:bW) (a:Int) (b:(Int)->Option (Bool)):Option (Bool):=
 if a<(List.length c:Int)then(ck (0<=a∧a<(List.length c:Int)) (ck (0<=a∧a<(List.length e:Int)) (Option.bind (xS U (at' c a) (at' e a)) λd=>(if(!d)=true then(some (false))else(b (wI .i64 (a+(1:Int))))))))else(tG  (()))
def vC (U:Nat) (a:gH) (b:bW):Option (Bool):=
 if(List.length b:Int)≠(List.length a:Int)then(some (false))else(bP (pX U a b) U (0:Int))
theorem Xx:aQ Tryz.prog 161:=Tryz.call161
theorem HL (U:Nat) {f:gH} {g:bW} (j:Value)  (p:mH)  (k:Value)  (q:wL) (r:Bool) (h:vC U f g=some r):
  bA Tryz.prog 161 #[j,k] [S2 aO j p f,S2 bN k q g] (λx:Unit=>vB (r)) (λx l=>l) (λ_ l=>l):=by
 refine bA.of Tryz.func161 Z Tryz.ntmps161 Z λc=>?_;refine aS<|aC Z<|aK<|aI<|aS<|aA Z<|aB (lY Z (aE.fact 1 Z) Z) Z<|aA Z<|aB (lY Z (aE.fact 0 Z) Z) Z<|oT Z<|aK ?_;refine eZ h Z (λh=>?_) λh=>?_
 ·refine aS<|aC Z<|aK<|aP<|aH ?_;cases h;exact kM Z
 refine cE<|aI<|d_ (λe=>tG  e=some r) (λe n=>[]) (λe n=>[]) ?_ ?_
 ·refine aS<|aA Z<|aB (lY Z (aE.fact 0 Z) Z) Z<|aA Z<|aK<|aU<|eH (pX U f g) (λd o=>[(1,k),(12,j),(13,vI (List.length f:Int)),(14,vI (d))]) (λd o=>[]) (0:Int) () h SF (aY.refl _) ?_;intro t d o h;refine aS<|cP Z<|aK<|aI ?_;refine eZ h Z (λh=>?_) λh=>?_
  ·refine cE<|aI<|aU<|aS<|aA Z<|dK h λa h=>aB (cQ Z Z (aE.fact 0 Z) Z Z a) Z<|aB (cL Z (aE.fact 0 Z) Z Z a) Z<|aC Z<|aC Z<|aK<|aS<|aA Z<|aA Z<|aA Z<|dK h λb h=>aB (cQ Z Z (aE.fact 1 Z) Z Z b) Z<|aB (cL Z (aE.fact 1 Z) Z Z b) Z<|eL h λi m h=>aG (aJ.callQ XF (JH U ((at' p d).1) ((at' q d).1) i m) Z (aD.cons (aE.el (aE.fact 0 Z) a.1 a.2) (aD.cons (aE.el (aE.fact 1 Z) b.1 b.2) .nil))) Z λs=>aB (iZ Z) Z<|aK ?_;refine yC h Z (λ_ h=>?_) λ_ h=>?_
   ·refine aS<|aC Z<|aK<|aP<|bO<|aH<|aH<|bO<|aH ?_;cases h;exact kM Z
   refine dJ<|mP<|aR<|cO Z<|aA Z<|aK ?_;exact Ai (wI .i64 (d+(1:Int))) () h SF Z
  refine fE ?_;exact iI () (()) h SF Z
 intro e n h;unfold tG at h;refine aS<|aC Z<|aK<|aP ?_;cases h;exact kM Z
def sQ (U:Nat) (a:Ca) (b:cB) (e:bW):Option (Int):=
 Option.bind (uA U ((a.1,a.2.1,a.2.2)) ((b.1,b.2))) λd=>(if d≠(0:Int)then(some (d))else(Option.bind (nC U ((a.1,a.2.1,a.2.2)) ((b.1,b.2))) λf=>(Option.bind (vC U f e) λc=>(if(!c)=true then(some (10:Int))else(some (0:Int))))))
theorem aal:aQ Tryz.prog 96:=Tryz.call96
theorem JG (U:Nat) {a:Ca} {g:cB} {p:bW} (b:Value)  (d:Value)  (e:Value)  (f:Value)  (o:mH)  (m:Value)  (t:wL) (r:Int) (h:sQ U a g p=some r):
  bA Tryz.prog 96 #[Value.agg #[vS (a.1),b,d],Value.agg #[e,f],m] [Sl aW b a.2.1,Sl aM d a.2.2,PF (Value.agg #[vS a.1,b,d]),Sl bN e g.1,S2 aO f o g.2,S2 bN m t p] (λx:Unit=>vI (r)) (λx l=>l) (λ_ l=>l):=by
 refine bA.of Tryz.func96 Z Tryz.ntmps96 Z λc=>?_;refine aS<|aG (aJ.box (cs:=[vS (a.1),b,d]) Z Z) Z λz=>aG (aJ.box (cs:=[e,f]) Z Z) Z λA=>aC Z<|aK<|aI<|aS<|dM 1 Z<|dM 0 Z<|eL h λu v h=>aG (aJ.callQ Xw (JY U b d e f o u v) Z (lJ [0,1,2,3,4] Z)) Z λB=>aC Z<|aK<|aS<|aA Z<|oT Z<|aK ?_;refine eZ h Z (λh=>?_) λh=>?_
 ·refine aS<|aA Z<|aC Z<|aK<|aP<|aH ?_;cases h;exact sV Z
 refine cE<|aI<|aS<|dM 1 Z<|dM 0 Z<|eL h λq w h=>aG (aJ.callQ Uu (Dw U b d e f o q w) Z (lJ [0,1,2,3,4] Z)) Z λs=>aA Z<|eL h λk n h=>aG (aJ.callQ Xx (HL U s.1 (List.zip s.2 q) m t k n) Z (aD.cons (bJ (i:=0) (j:=1) Z Z bB) (lJ [5] Z))) Z λy=>aB (iZ Z) Z<|aK ?_;refine yC h Z (λ_ h=>?_) λ_ h=>?_
 ·refine aS<|aC Z<|aK<|aP<|aH ?_;cases h;exact sV Z
 refine cE<|aS<|aC Z<|aK<|aP ?_;cases h;exact sV Z
def xX  (a:bW):Option bW:=
 some (a)
def sS (c:bW) (a:Int×bW) (b:(Int×bW)->Option bW):Option bW:=
 if a.1<(List.length c:Int)then(ck (0<=a.1∧a.1<(List.length c:Int)) (ck ((List.length ([]:aT):Int)+(List.length (at' c a.1):Int)<=1099511627) (ck (0<=a.1∧a.1<(List.length a.2:Int)) (b ((wI .i64 (a.1+(1:Int))),(List.set a.2 (Int.toNat a.1) (([]:aT)++(at' c a.1))))))))else(xX  (a.2))
def uD (U:Nat) (a:bW):Option bW:=
 ck (0<=(List.length a:Int)∧(List.length a:Int)<=1099511627) (bP (sS a) U ((0:Int),(List.replicate (Int.toNat (List.length a:Int)) ([]:aT))))
theorem Uv:aQ Tryz.prog 98:=Tryz.call98
theorem EF (U:Nat) {g:bW} (t:Value)  (w:wL) (r:bW) (h:uD U g=some r):
  bA Tryz.prog 98 #[t] [S2 bN t w g] (λx:Value×List Value=>x.1) (λx l=>Ar eK.raw x.1 x.2::k_ cM x.2 r::l) (λ_ l=>l):=by
 refine bA.of Tryz.func98 Z Tryz.ntmps98 Z λc=>?_;refine aS<|aC Z<|aK<|aS<|aA Z<|aB (lY Z (aE.fact 0 Z) Z) Z<|dK h λu h=>jY (zM cM (Int.toNat (List.length g:Int)))<|aG (sD (e:=eK.raw) (lS) Z Z Z Z u Z Z Z) Z λp=>aC Z<|aK<|aI<|Cz (B:=iP) (λm=>xX  m=some r) (λm n=>[(3,p)]) (λm n=>[Ar eK.raw p n,k_ cM n m]) ?_ ?_
 ·refine aS<|aA Z<|aB (lY Z (aE.fact 0 Z) Z) Z<|aA Z<|aK<|aU<|eH (B:=iP) (sS g) (λa b=>[(3,p),(9,t),(10,vI (List.length g:Int)),(11,vI (a.1))]) (λa b=>[Ar eK.raw p b,k_ cM b a.2]) ((0:Int),(List.replicate (Int.toNat (List.length g:Int)) ([]:aT))) (List.replicate (Int.toNat (List.length g:Int)) (lS)) h SF (aY.refl _) ?_;intro v a b h;refine aS<|cP Z<|aK<|aI ?_;refine eZ h Z (λh=>?_) λh=>?_
  ·refine cE<|aI<|aU<|aS<|aA Z<|dK h λf h=>aB (cQ Z Z (aE.fact 0 Z) Z Z f) Z<|aB (cL Z (aE.fact 0 Z) Z Z f) Z<|aC Z<|aC Z<|aK<|aR<|aA Z<|aA Z<|aA Z<|jY (f_ cM)<|dK h λq h=>aG (g_ 0 cU Z Z Z (aE.el (aE.fact 0 Z) f.1 f.2) Z Z Z Z q Z) Z λs=>dK h λd h=>aB (cQ Z Z (bJ (i:=1) (j:=2) Z Z cU) Z Z d) Z<|dB (Know.one ((aX (aE.res 0 Z) cU))) λo=>jY (yL (k:=a.1) 2 0 Z Z Z d) ?_;refine qA 0 1 ⟨d.1,by first|exact d.2|simpa using d.2⟩ Z Z Z Z Z (by simp) o Z ?_;refine fF<|mP<|aR<|cO Z<|aA Z<|aK ?_;exact Ai ((wI .i64 (a.1+(1:Int))),(List.set a.2 (Int.toNat a.1) (([]:aT)++(at' g a.1)))) (List.set b (Int.toNat a.1) s) h SF Z
  refine fE ?_;exact iI (a.2) (b) h SF Z
 intro m n h;unfold xX at h;refine aS<|aA Z<|aC Z<|aK<|aP ?_;cases h;exact kC (p,n) Z Z (RV.tmp Z) (aY.refl _) aD.nil
end Go.Proofs.YtjkjpdonlpdcaaaGreatDoor
namespace Go.Proofs.YtjkjpdonlpdcaaaGreatDoor
open Go Go.Sx
abbrev Gq:=ByteArray×(List Hi)×(List yF)
structure zW (g:GR) (vars:List Hi):Prop where
 len:vars.length<=20
 small:∀x,x<vars.length->Fy (at' vars (x:Int))
 kind:∀x,x<vars.length->(at' vars (x:Int)).2.1=1∨(at' vars (x:Int)).2.1=2∨(at' vars (x:Int)).2.1=3
 range:∀x,x<vars.length->(at' vars (x:Int)).2.1=1 -> -100000<=lo g (at' vars (x:Int)) 0∧lo g (at' vars (x:Int)) 0<=hi g (at' vars (x:Int)) 0∧hi g (at' vars (x:Int)) 0 - lo g (at' vars (x:Int)) 0+1<=4096
theorem VA {g:GR} (a:VG g):xV 1000 g.1=some (fO g g.1.length):=by
 have d:=a.n24;have b:=a.len;have h:=a.n1;have f:0<=at' g.1 ((0:Nat):Int):=(a.node 0 (by omega)).id.1;unfold xV;rw[if_neg (by omega),cV (by omega)];have:=eB (step:=uI g.1) (K:=some (fO g g.1.length)) (g.1.length - 1) (λk=>(fO g (k+1),((k+1:Nat):Int))) (λk c i=>by
  unfold uI;dsimp only;rw[if_pos (by omega),cV (by omega),eY (by omega)];rfl) (λc=>by
  unfold uI zH;dsimp only;rw[if_neg (by omega),show g.1.length - 1+1=g.1.length by omega]) 1000 (by omega)
 have e:fO g (0+1)=at' g.1 (0:Int):=by
  show max (fO g 0) (at' g.1 ((0:Nat):Int))=_;simp only[fO];have:at' g.1 ((0:Nat):Int)=at' g.1 (0:Int):=rfl;omega
 rw[e]at this;exact this
theorem Ko {g:GR} (c:VG g) {x:Hi} (o:Fy x) (n:x.2.1=1∨x.2.1=2∨x.2.1=3) {v:Nat} (p:v<g.2.length):j_ 1000 x g (v:Int)=some (lo g x v,hi g x v):=by
 obtain⟨⟨B,C⟩,⟨r,s⟩,t,u⟩:=o;have l:=c.n24;have d:=c.len;have e:=rB c g.1.length (by omega);have w:0<=x.2.2.2.2.1*(g.1.length:Int):=Int.mul_nonneg r (by omega);have y:x.2.2.2.2.1*(g.1.length:Int)<=100000*24:=Int.mul_le_mul s (by omega) (by omega) (by omega);have z:0<=x.2.2.2.2.2*fO g g.1.length:=Int.mul_nonneg t e.1;have A:x.2.2.2.2.2*fO g g.1.length<=100000*255:=Int.mul_le_mul u e.2 e.1 (by omega);have i:oH 1000 x g (v:Int)=some (x.2.2.1,x.2.2.2.1+x.2.2.2.2.1*(g.2.length:Int)+x.2.2.2.2.2*fO g g.1.length):=by
  unfold oH;rw[bM (VA c),wr (x:=x.2.2.2.2.1*_) (by omega) (by omega),wr (x:=x.2.2.2.2.2*_) (by omega) (by omega),wr (x:=x.2.2.2.1+_) (by omega) (by omega),wr (by omega) (by omega),d]
 have j:oI 1000 x g (v:Int)=some (-1,((row g v).length:Int) - 1):=by
  have k:=(c.node v p).deg;unfold oI;rw[cV (by omega)];show some ((-1:Int),wI .i64 (((row g v).length:Int) - 1))=_;rw[wr (by omega) (by omega)]
 have q:∀(f:Nat) (a:Int),bP (eT 1000 x g (v:Int)) (f+1) a=eT 1000 x g (v:Int) a (bP (eT 1000 x g (v:Int)) f):=λf a=>rfl;have b:∀(f:Nat) (a:Int),a=0∨a=1∨a=2->bP (eT 1000 x g (v:Int)) (f+1) a=if a=0 then(if 1=x.2.1 then oH 1000 x g (v:Int)else bP (eT 1000 x g (v:Int)) f 1)else if a=1 then(if 2=x.2.1 then rX 1000 x g (v:Int)else bP (eT 1000 x g (v:Int)) f 2)else(if 3=x.2.1 then oI 1000 x g (v:Int)else bP (eT 1000 x g (v:Int)) f 3):=by
  intro f a m;rw[q];generalize bP (eT 1000 x g (v:Int)) f=G;unfold eT mE;rcases m with rfl|rfl|rfl
  ·rw[if_pos (by decide),cV (by decide),if_pos Z,if_pos Z];split
   ·rw[i];rfl
   ·rfl
  ·rw[if_pos (by decide),cV (by decide),if_neg (show¬(1:Int)=0 by decide),if_pos Z,if_neg (show¬(1:Int)=0 by decide),if_pos Z];split
   ·rfl
   ·rfl
  ·rw[if_pos (by decide),cV (by decide),if_neg (show¬(2:Int)=0 by decide),if_neg (show¬(2:Int)=1 by decide),if_neg (show¬(2:Int)=0 by decide),if_neg (show¬(2:Int)=1 by decide)];split
   ·rw[j];rfl
   ·rfl
 unfold j_ lo hi;rcases n with h|h|h
 ·rw[b 999 0 (.inl Z),if_pos Z,if_pos h.symm,i,h,if_neg (by decide),if_neg (by decide),if_neg (by decide),if_neg (by decide)]
 ·rw[b 999 0 (.inl Z),if_pos Z,if_neg (by omega),b 998 1 (.inr (.inl Z)),if_neg (by decide),if_pos Z,if_pos h.symm,h,if_pos Z,if_pos Z];rfl
 ·rw[b 999 0 (.inl Z),if_pos Z,if_neg (by omega),b 998 1 (.inr (.inl Z)),if_neg (by decide),if_pos Z,if_neg (by omega),b 997 2 (.inr (.inr Z)),if_neg (by decide),if_neg (by decide),if_pos h.symm,j,h,if_neg (by decide),if_pos Z,if_neg (by decide),if_pos Z]
def tJ (g:GR) (a:List Hi) (v x:Nat):eD:=(lo g (at' a (x:Int)) v,hi g (at' a (x:Int)) v)
def Em (g:GR) (a:List Hi) (v:Nat):b_:=(List.range a.length).map (tJ g a v)
def CL (g:GR) (a:List Hi):gH:=(List.range g.2.length).map (Em g a)
theorem xY {a:Type} [Inhabited a] (f:Nat->a) {n k:Nat} (h:k<n):at' ((List.range n).map f) (k:Int)=f k:=by
 rw[nU (by simpa using h)];simp
theorem zC {a:Type} (f:Nat->a) (z:a) (n k:Nat) (h:k<n):((List.range k).map f++List.replicate (n - k) z).set k (f k)=(List.range (k+1)).map f++List.replicate (n - (k+1)) z:=by
 rw[show n - k=(n - (k+1))+1 by omega,List.replicate_succ,List.set_append_right _ _ (by simp),List.range_succ];simp
theorem Od {g:GR} (m:VG g) {p:Gq} (n:zW g p.2.1):nC 1000 p g=some (CL g p.2.1):=by
 have s:=m.n24;have d:=m.len;have w:=n.len;let a:=p.2.1;let Q:Nat->gH:=λk=>(List.range k).map (Em g a)++List.replicate (g.2.length - k) [];have c:∀k,k<=g.2.length->(Q k).length=g.2.length:=λk f=>by simp[Q];omega
 let R:Nat->Nat->b_:=λk j=>(List.range j).map (tJ g a k)++List.replicate (a.length - j) (0,0);have l:∀k j,j<=a.length->(R k j).length=a.length:=λk j b=>by simp[R];omega
 unfold nC;rw[cV (by omega)];rw[show List.replicate (Int.toNat (g.1.length:Int)) ([]:b_)=Q 0 by simp[Q,d]];refine eB (step:=lP 1000 p g) (K:=some (CL g a)) g.2.length (λk=>((k:Int),Q k)) (λk e f=> ?_) (λe=> ?_) 1000 (by omega)
 ·unfold lP;dsimp only;rw[if_pos (by simp;omega),cV (by omega),cV (by rw[c k (by omega)];omega)];refine Eq.trans (?_:_=bP (nW 1000 p g ((k:Int),Q k) e) 1000 ((0:Int),(Q k).set k (R k 0))) ?_
  ·rw[Int.toNat_natCast,Int.toNat_natCast];simp[R,a]
  refine eB (step:=nW 1000 p g ((k:Int),Q k) e) (K:=e (((k+1:Nat):Int),Q (k+1))) a.length (λj=>((j:Int),(Q k).set k (R k j))) (λj h b=> ?_) (λh=> ?_) 1000 (by show p.2.1.length<1000;omega)
  ·have u:j<p.2.1.length:=b;have t:=Ko m (n.small j b) (n.kind j b) f;have v:k<(Q k).length:=by rw[c k (by omega)];exact f
   have o:∀X:b_,at' ((Q k).set k X) (k:Int)=X:=λX=>by rw[zY _ _ _ _ v,if_pos Z]
   have i:j<(R k j).length:=by rw[l k j (by omega)];exact b
   unfold nW;dsimp only;rw[if_pos (by omega),cV (by omega),cV (by simp only[List.length_set];omega),cV (by simp only[List.length_set];omega),bM (show j_ 1000 _ g (k:Int)=_ from t),Int.toNat_natCast,Int.toNat_natCast];simp only[o,List.set_set];rw[cV (by omega),cV (by simp only[List.length_set];omega),eY (by omega)];have:(R k j).set j (lo g (at' p.2.1 (j:Int)) k,hi g (at' p.2.1 (j:Int)) k)=R k (j+1):=zC (tJ g a k) (0,0) a.length j b;rw[zY _ _ _ _ i,if_pos Z];dsimp only;rw[this]
  ·unfold nW uS;dsimp only;rw[if_neg (show¬((a.length:Nat):Int)<(p.2.1.length:Int)from Int.lt_irrefl _),eY (by omega)];have q:R k a.length=Em g a k:=by simp[R,Em]
   have r:(Q k).set k (Em g a k)=Q (k+1):=zC (Em g a) [] g.2.length k f;rw[q,r]
 ·unfold lP uR;dsimp only;rw[if_neg (by simp;omega)];simp[Q,CL]
theorem Yl {g:GR} (c:VG g) {p:Gq} (b:zW g p.2.1):uA 1000 p g=some 0:=by
 have i:=c.n1;have h:=b.len;unfold uA;rw[bM (show BE 1000 _=some true from rfl),if_neg (by decide),bM (show eM 1000 g=some true from(Tg g).1 c),if_neg (by decide)];refine eB (step:=mM 1000 p g) (K:=some 0) p.2.1.length (λk=>(k:Int)) (λk e d=> ?_) (λe=> ?_) 1000 (by omega)
 ·unfold mM pK xD pK;rw[if_pos (by omega),cV (by omega),eY (by omega)];by_cases a:(at' p.2.1 (k:Int)).2.1=1
  ·obtain⟨j,l,m⟩:=b.range k d a;have f:=Ko c (b.small k d) (b.kind k d) (v:=0) (by omega);rw[if_neg (by simpa using a),bM (show j_ 1000 _ g (0:Int)=_ from f)];dsimp only;rw[if_neg (by omega),wr (x:=hi g (at' p.2.1 (k:Int)) 0 - lo g (at' p.2.1 (k:Int)) 0) (by omega) (by omega),wr (by omega) (by omega),if_neg (by rw[decide_eq_true_eq];omega)]
  ·rw[if_pos a]
 ·unfold mM xC;rw[if_neg (by omega)]
theorem Wk {g:GR} {a:List Hi} (i:a.length<=20) {v:Nat} {l:aT} (c:l.length=a.length) (d:∀x,x<a.length->lo g (at' a (x:Int)) v<=at' l (x:Int)∧at' l (x:Int)<=hi g (at' a (x:Int)) v):xS 1000 (Em g a v) l=some true:=by
 have f:(Em g a v).length=a.length:=by simp[Em]
 unfold xS;rw[if_neg (by rw[f,c];simp)];refine eB (step:=nZ (Em g a v) l) (K:=some true) l.length (λk=>(k:Int)) (λk b h=> ?_) (λb=> ?_) 1000 (by omega)
 ·have e:at' (Em g a v) (k:Int)=tJ g a v k:=xY _ (by omega);have:=d k (by omega);unfold nZ vE;rw[if_pos (by omega),cV (by omega),cV (by omega),e];rw[if_neg (show¬at' l (k:Int)<(tJ g a v k).1 from Int.not_lt.2 this.1),cV (by omega),if_neg (by rw[decide_eq_true_eq];exact Int.not_lt.2 this.2),eY (by omega)]
 ·unfold nZ vD;rw[if_neg (by omega)]
theorem Uz {g:GR} (a:VG g) {p:Gq} (f:zW g p.2.1) {c:bW} (b:MN g c p.2.1):sQ 1000 p g c=some 0:=by
 have i:=a.n24;have l:(CL g p.2.1).length=g.2.length:=by simp[CL]
 have d:=b.len;unfold sQ;rw[bM (show uA 1000 _ _=some 0 from Yl a f),if_neg (by decide),bM (show nC 1000 _ _=_ from Od a f)];have:vC 1000 (CL g p.2.1) c=some true:=by
  unfold vC;rw[if_neg (by rw[l,d];simp)];refine eB (step:=pX 1000 (CL g p.2.1) c) (K:=some true) g.2.length (λk=>(k:Int)) (λk h e=> ?_) (λh=> ?_) 1000 (by omega)
  ·have j:at' (CL g p.2.1) (k:Int)=Em g p.2.1 k:=xY _ e;unfold pX;rw[if_pos (by omega),cV (by omega),cV (by omega),j,bM (Wk f.len (b.row k e) (b.ok k e)),if_neg (by decide),eY (by omega)]
  ·unfold pX tG;rw[if_neg (by omega)]
 rw[bM this,if_neg (by decide)]
theorem QI (c:bW) (h:c.length<=900) (e:∀v,v<c.length->(at' c (v:Int)).length<=1000):uD 1000 c=some c:=by
 unfold uD;rw[cV (by omega)];let Q:Nat->bW:=λk=>(List.range k).map (λv:Nat=>at' c (v:Int))++List.replicate (c.length - k) [];rw[show List.replicate (Int.toNat (c.length:Int)) ([]:aT)=Q 0 by simp[Q]];refine eB (step:=sS c) (K:=some c) c.length (λk=>((k:Int),Q k)) (λk b a=> ?_) (λb=> ?_) 1000 (by omega)
 ·have g:(Q k).length=c.length:=by simp[Q];omega
  have:=e k a;unfold sS;dsimp only;rw[if_pos (by omega),cV (by omega),cV (by simp;omega),cV (by omega),eY (by omega),Int.toNat_natCast,List.nil_append];have:(Q k).set k (at' c (k:Int))=Q (k+1):=zC (λv:Nat=>at' c (v:Int)) [] c.length k a;rw[this]
 ·unfold sS xX;dsimp only;rw[if_neg (by omega)];congr 1;refine List.ext_getElem (by simp[Q]) λi f d=> ?_;simp[Q,nU d]
def HD (x:Int):Int:=max (-1073741824) (min x 1073741824)
def unD (o x:Int):Int:=if o=18 then wI .i64 (0 - x)else Gt (decide (x=0))
def NQ (a b:Int):Int:=if b=0 then 0 else if Int.tmod a b≠0∧((decide (a<0)) != (decide (b<0)))=true then wI .i64 (wI .i64 (Int.tdiv a b) - 1)else wI .i64 (Int.tdiv a b)
def aar (o x y:Int):Bool:=if o=35 then decide (x=y)else if o=36 then decide (x≠y)else if o=37 then decide (x<y)else if o=38 then decide (x<=y)else if o=39 then decide (y<x)else decide (y<=x)
def ZX (o x y:Int):Int:=
 if o=30 then HD (wI .i64 (x*y))else if o=31 then HD (NQ x y)else if o=32 then(if y=0 then 0 else HD (wI .i64 (x - wI .i64 (y*NQ x y))))else if o=33 then HD (wI .i64 (x+y))else if o=34 then HD (wI .i64 (x - y))
 else if o=41 then Gt (decide (x≠0)&&decide (y≠0))else if o=42 then Gt (decide (x≠0)||decide (y≠0))else Gt (aar o x y)
theorem Wn (f:Nat) (o x:Int):Au f o x=some (unD o x):=by
 unfold Au unD;split
 ·rfl
 ·rw[bM (uL f _)]
theorem VZ (f:Nat) (a b:Int):qY f a b=some (NQ a b):=by
 unfold qY NQ;by_cases c:b=0
 ·rw[if_pos c,if_pos c]
 ·rw[if_neg c,if_neg c,cV c,cV c];by_cases d:Int.tmod a b=0
  ·rw[if_neg (by simpa using d),if_neg (by simp[d])];rfl
  ·rw[if_pos d];unfold tB pO;by_cases e:((decide (a<0)) != (decide (b<0)))=true
   ·rw[if_pos e,if_pos ⟨d,e⟩]
   ·rw[if_neg e,if_neg (λq=>e q.2)]
theorem aas (f:Nat) (o x y:Int):vA f o x y=some (aar o x y):=by
 unfold vA aar
 repeat' split
 all_goals rfl
theorem Sd (f:Nat) (o x y:Int):zA f o x y=some (ZX o x y):=by
 unfold zA ZX;by_cases h:o=30
 ·rw[if_pos h,if_pos h];rfl
 rw[if_neg h,if_neg h];by_cases h:o=31
 ·rw[if_pos h,if_pos h,bM (VZ f x y)];rfl
 rw[if_neg h,if_neg h];by_cases h:o=32
 ·rw[if_pos h,if_pos h];by_cases b:y=0
  ·rw[if_pos b,if_pos b]
  ·rw[if_neg b,if_neg b,bM (VZ f x y)];rfl
 rw[if_neg h,if_neg h];by_cases h:o=33
 ·rw[if_pos h,if_pos h];rfl
 rw[if_neg h,if_neg h];by_cases h:o=34
 ·rw[if_pos h,if_pos h];rfl
 rw[if_neg h,if_neg h];by_cases h:o=41
 ·rw[if_pos h,if_pos h];by_cases a:x=0
  ·rw[if_neg (by simpa using a),bM (uL f _)];simp[a,pM]
  ·rw[if_pos a,bM (uL f _)];simp[a,pM]
 rw[if_neg h,if_neg h];by_cases h:o=42
 ·rw[if_pos h,if_pos h];by_cases a:x=0
  ·rw[if_neg (by simpa using a),bM (uL f _)];simp[a,pN]
  ·rw[if_pos a,bM (uL f _)];simp[a,pN]
 rw[if_neg h,if_neg h,bM (aas f o x y),bM (uL f _)]
def E.den (L:Int->Int->Int->Int) (b:Nat):E->Int->Int
 |lf o a,p=>L o a p
 |un o x,p=>unD o (x.den L b p)
 |ag o x,_=>QP o ((List.range b).map λq=>x.den L b ((q:Nat):Int))
 |bi o x y,p=>ZX o (x.den L b p) (y.den L b p)
 |ite x y z,p=>if x.den L b p≠0 then y.den L b p else z.den L b p
def E.wf (c:Nat):Bool->E->Bool
 |b,lf o a=>decide (1<=o)&&decide (o<=17)&&(b||decide (o<=10))&&((decide (o≠5)&&decide (o≠12))||(decide (0<=a)&&decide (a<(c:Int))))
 |b,un o x=>decide (18<=o)&&decide (o<=19)&&x.wf c b
 |_,ag o x=>(decide (o=20)||decide (o=21)||decide (o=22)||decide (o=23)||decide (o=24)||decide (o=26)||decide (o=27))&&x.wf c true
 |b,bi o x y=>decide (30<=o)&&decide (o<=42)&&x.wf c b&&y.wf c b
 |b,ite x y z=>x.wf c b&&y.wf c b&&z.wf c b
theorem WO {i:Nat}:∀{e:E} {b:Bool},e.wf i b=true->e.arOk=true:=by
 intro e
 induction e with
 |lf o a=>intro b h;simp[E.wf,E.arOk]at h ⊢;omega
 |un o x f=>intro b h;simp[E.wf,E.arOk]at h ⊢;exact⟨h.1,f h.2⟩
 |ag o x f=>intro b h;simp[E.wf,E.arOk]at h ⊢;exact⟨by omega,f h.2⟩
 |bi o x y c d=>intro b h;simp[E.wf,E.arOk]at h ⊢;exact⟨⟨h.1.1,c h.1.2⟩,d h.2⟩
 |ite x y z c d g=>intro b h;simp[E.wf,E.arOk]at h ⊢;exact⟨⟨c h.1.1,d h.1.2⟩,g h.2⟩
def VF (W:WLK) (p:Int):Int:=(at' (at' W.1.2.1.2 W.2.2.1) p).1
def JU (W:WLK) (o a p:Int):Int:=
 if o=1 then a else if o=2 then 1 else if o=3 then 0 else if o=4 then -1 else if o=5 then at' (at' W.2.1 W.2.2.1) a else if o=12 then at' (at' W.2.1 (VF W p)) a
 else if o=6 then(W.1.2.1.1.length:Int)else if o=7 then W.1.2.2.1 else if o=8 then at' W.1.2.1.1 W.2.2.1 else if o=9 then((at' W.1.2.1.2 W.2.2.1).length:Int)else if o=10 then Gt (decide (W.2.2.1=0))else if o=11 then p
 else if o=13 then at' W.1.2.1.1 (VF W p)else if o=14 then((at' W.1.2.1.2 (VF W p)).length:Int)else if o=15 then Gt (decide (VF W p=0))else if o=16 then(at' (at' W.1.2.1.2 W.2.2.1) p).2 else at' (at' W.1.2.2.2 W.2.2.1) p
structure WOk (W:WLK) (nv n v:Nat):Prop where
 node:W.2.2.1=(v:Int)
 lt:v<n
 ports:W.1.2.1.2.length=n
 ids:W.1.2.1.1.length=n
 c:W.2.1.length=n
 row:∀u:Nat,u<n->(at' W.2.1 (u:Int)).length=nv
 to:∀u:Nat,u<n->∀i:Nat,i<(at' W.1.2.1.2 (u:Int)).length->0<=(at' (at' W.1.2.1.2 (u:Int)) (i:Int)).1∧(at' (at' W.1.2.1.2 (u:Int)) (i:Int)).1<(n:Int)
 bl:W.1.2.2.2.length=n
 br:∀u:Nat,u<n->(at' W.1.2.2.2 (u:Int)).length=(at' W.1.2.1.2 (u:Int)).length
def TQ (b:Bool) (a:Nat) (p:Int):Prop:=b=true->∃q:Nat,p=(q:Int)∧q<a
theorem YD {W:WLK} {k n v:Nat} (h:WOk W k n v) (f:Nat) {b:Bool} {o a p:Int} (s:(E.lf o a).wf k b=true) (r:TQ b (at' W.1.2.1.2 (v:Int)).length p):lW f W (o,a) p=some (JU W o a p):=by
 obtain⟨y,c,A,B,C,l,m,F,w⟩:=h;simp only[E.wf,Bool.and_eq_true,Bool.or_eq_true,decide_eq_true_eq]at s;obtain⟨⟨⟨G,H⟩,d⟩,I⟩:=s;have z:(at' W.2.1 (v:Int)).length=k:=l v c;unfold lW JU VF;dsimp only;rw[y];by_cases e:o=1
 ·simp only[if_pos e]
 simp only[if_neg e];by_cases e:o=2
 ·simp only[if_pos e]
 simp only[if_neg e];by_cases e:o=3
 ·simp only[if_pos e]
 simp only[if_neg e];by_cases e:o=4
 ·simp only[if_pos e]
 simp only[if_neg e];by_cases e:o=5
 ·simp only[if_pos e];rw[cV (by omega),cV (by omega)]
 simp only[if_neg e];by_cases e:o=12
 ·have i:b=true:=by
   rcases d with d|d
   ·exact d
   ·omega
  obtain⟨q,rfl,j⟩:=r i;have g:=m v c q j;obtain⟨u,x⟩:∃u:Nat,(at' (at' W.1.2.1.2 (v:Int)) (q:Int)).1=(u:Int):=⟨_,(Int.toNat_of_nonneg g.1).symm⟩
  simp only[if_pos e];rw[x]at g ⊢;have D:=l u (by omega);rw[cV (by omega),cV (by omega),cV (by omega),cV (by omega)]
 simp only[if_neg e];unfold sM;dsimp only;by_cases e:o=6
 ·simp only[if_pos e];rfl
 simp only[if_neg e];by_cases e:o=7
 ·simp only[if_pos e];rfl
 simp only[if_neg e];by_cases e:o=8
 ·simp only[if_pos e];rw[cV (by omega)];rfl
 simp only[if_neg e];by_cases e:o=9
 ·simp only[if_pos e];rw[cV (by omega)];rfl
 simp only[if_neg e];by_cases e:o=10
 ·simp only[if_pos e];rw[bM (uL f _)];rfl
 simp only[if_neg e];by_cases e:o=11
 ·simp only[if_pos e];rfl
 simp only[if_neg e];have i:b=true:=by
  rcases d with d|d
  ·exact d
  ·omega
 obtain⟨q,rfl,j⟩:=r i;have g:=m v c q j;rw[cV (by omega),cV (by omega)];by_cases e:o=13
 ·simp only[if_pos e];rw[cV (by omega)];rfl
 simp only[if_neg e];by_cases e:o=14
 ·simp only[if_pos e];rw[cV (by omega)];rfl
 simp only[if_neg e];by_cases e:o=15
 ·simp only[if_pos e];rw[bM (uL f _)];rfl
 simp only[if_neg e];by_cases e:o=16
 ·simp only[if_pos e];rfl
 simp only[if_neg e];have t:=w v c;rw[cV (by omega),cV (by omega)];rfl
theorem WF {W:WLK} {nv n v:Nat} (h:WOk W nv n v) {deg:Nat} (m:(at' W.1.2.1.2 (v:Int)).length=deg) (L:deg<=24) (S:W.2.2.2.length<=800):
  ∀(e:E) (b:Bool) (c k:Nat) (p:Int) (g d:b_),W.2.2.2=g++(e.ts++d)->g.length=k->e.wf nv b=true->TQ b deg p->e.depth+850<=c->
   bV c W (k:Int) p=some (e.den (JU W) deg p,(((k+e.ts.length:Nat)):Int)):=by
 obtain⟨Q,ab,h1,h2,h3,h4,h5,_,_⟩:=id h;have i:∀{t:eD} {l g d:b_} {k:Nat},W.2.2.2=g++((t::l)++d)->g.length=k->at' W.2.2.2 (k:Int)=t∧(k:Int)<(W.2.2.2.length:Int):=by
  intro t l g d k j r;refine⟨Ln (rest:=l++d) (by simpa using j) r,?_⟩
  rw[j];simp;omega
 intro e
 induction e with
 |lf o a=>
  intro b c k p g d j r u w B;obtain⟨c,rfl⟩:∃f,c=f+1:=⟨c - 1,by omega⟩
  obtain⟨A,s⟩:=i (l:=[]) j r;show dD (bV c) c W (k:Int) p=_;unfold dD;rw[cV ⟨by omega,s⟩,A];dsimp only;have X:=u;simp only[E.wf,Bool.and_eq_true,Bool.or_eq_true,decide_eq_true_eq]at X;have hl:=YD h c u (m▸w);rw[if_pos (by omega),bM (show lW c _ (o,a) p=some (JU W o a p)from hl),eY (by omega)];rfl
 |un o x ih=>
  intro b c k p g d j r u w B;obtain⟨c,rfl⟩:∃f,c=f+1:=⟨c - 1,by omega⟩
  obtain⟨A,s⟩:=i (l:=x.ts) j r;show dD (bV c) c W (k:Int) p=_;unfold dD;rw[cV ⟨by omega,s⟩,A];dsimp only;simp only[E.wf,Bool.and_eq_true,decide_eq_true_eq]at u;simp only[E.depth]at B;have F:=ih b c (k+1) p (g++[(o,0)]) d (by rw[j];simp[E.ts]) (by simp[r]) u.2 w (by omega);rw[if_neg (by omega),if_pos (by omega),eY (by omega),bM (show bV c _ _ p=_ from F),bM (Wn c _ _)];simp only[E.den,E.ts,List.length_cons];rw[show k+1+x.ts.length=k+(x.ts.length+1) by omega]
 |bi o x y G H=>
  intro b c k p g d j r u w B;obtain⟨c,rfl⟩:∃f,c=f+1:=⟨c - 1,by omega⟩
  obtain⟨A,s⟩:=i (l:=x.ts++y.ts) j r;show dD (bV c) c W (k:Int) p=_;unfold dD;rw[cV ⟨by omega,s⟩,A];dsimp only;simp only[E.wf,Bool.and_eq_true,decide_eq_true_eq]at u;simp only[E.depth]at B;have F:=G b c (k+1) p (g++[(o,0)]) (y.ts++d) (by rw[j];simp[E.ts]) (by simp[r]) u.1.2 w (by omega);have Y:=H b c (k+1+x.ts.length) p (g++(o,0)::x.ts) d (by rw[j];simp[E.ts]) (by simp[r];omega) u.2 w (by omega);rw[if_neg (by omega),if_neg (by omega),if_neg (by omega),if_pos (by omega),eY (by omega),bM (show bV c _ _ p=_ from F),bM (show bV c _ _ p=_ from Y),bM (Sd c _ _ _)];simp only[E.den,E.ts,List.length_cons,List.length_append];rw[show k+1+x.ts.length+y.ts.length=k+(x.ts.length+y.ts.length+1) by omega]
 |ite x y z G H aa=>
  intro b c k p g d j r u w B;obtain⟨c,rfl⟩:∃f,c=f+1:=⟨c - 1,by omega⟩
  obtain⟨A,s⟩:=i (l:=x.ts++(y.ts++z.ts)) j r;show dD (bV c) c W (k:Int) p=_;unfold dD;rw[cV ⟨by omega,s⟩,A];dsimp only;simp only[E.wf,Bool.and_eq_true]at u;simp only[E.depth]at B;have F:=G b c (k+1) p (g++[(43,0)]) (y.ts++z.ts++d) (by rw[j];simp[E.ts]) (by simp[r]) u.1.1 w (by omega);have Y:=H b c (k+1+x.ts.length) p (g++(43,0)::x.ts) (z.ts++d) (by rw[j];simp[E.ts]) (by simp[r];omega) u.1.2 w (by omega);have hz:=aa b c (k+1+x.ts.length+y.ts.length) p (g++(43,0)::(x.ts++y.ts)) d (by rw[j];simp[E.ts]) (by simp[r];omega) u.2 w (by omega);rw[if_neg (by decide),if_neg (by decide),if_neg (by decide),if_neg (by decide),eY (by omega),bM (show bV c _ _ p=_ from F),bM (show bV c _ _ p=_ from Y),bM (show bV c _ _ p=_ from hz)];simp only[E.den,E.ts,List.length_cons,List.length_append];rw[show k+1+x.ts.length+y.ts.length+z.ts.length=k+(x.ts.length+(y.ts.length+z.ts.length)+1) by omega];split<;>rfl
 | ag o x ih =>
  intro b c k p g d j r u w B;obtain⟨c,rfl⟩:∃f,c=f+1:=⟨c - 1,by omega⟩
  obtain⟨A,s⟩:=i (l:=x.ts) j r;have T:=WO u;have R:=u;simp only[E.wf,Bool.and_eq_true,Bool.or_eq_true,decide_eq_true_eq]at R;simp only[E.depth]at B;have P:(E.ag o x).ts.length=x.ts.length+1:=rfl;have M:=congrArg List.length j;simp only[List.length_append]at M;show dD (bV c) c W (k:Int) p=_;unfold dD;rw[cV ⟨by omega,s⟩,A];dsimp only;rw[if_neg (by omega),if_neg (by omega),if_pos (by omega),cV (by omega)];let D:Nat->Int:=λq=>x.den (JU W) deg ((q:Nat):Int);let V:Nat->aT:=λq=>(List.range q).map D++List.replicate (24 - q) 0;have J:∀q,q<=24->(V q).length=24:=λq U=>by simp[V];omega
  have O:∀q,q<24->(V q).set q (D q)=V (q+1):=λq U=>by
   show((List.range q).map D++List.replicate (24 - q) 0).set q (D q)=(List.range (q+1)).map D++List.replicate (24 - (q+1)) 0;rw[show 24 - q=(24 - (q+1))+1 by omega,List.replicate_succ,List.set_append_right _ _ (by simp),List.range_succ];simp
  let N:Nat->Int:=λq=>if q=0 then 0 else(((k+1+x.ts.length:Nat)):Int)
  refine Eq.trans (eB (step:=kH c W (k:Int) (bV c)) (K:=some ((E.ag o x).den (JU W) deg p,(((k+(E.ag o x).ts.length:Nat)):Int))) deg (λq=>(N q,(q:Int),V q)) (λq ag U=> ?_) (λag=> ?_) c (by omega)) Z
  ·unfold kH;dsimp only;have F:=ih true c (k+1) ((q:Nat):Int) (g++[(o,0)]) d (by rw[j];simp[E.ts]) (by simp[r]) R.2 (λ_=>⟨q,rfl,U⟩) (by omega);rw[if_pos (by rw[Q,m];omega),eY (by omega),bM (show bV c _ _ _=_ from F),cV ⟨by omega,J q (by omega)⟩,eY (by omega),Int.toNat_natCast];show ag (_,_,(V q).set q (D q))=_;rw[O q (by omega)];simp only[N];rw[if_neg (by omega)]
  ·unfold kH;dsimp only;rw[if_neg (by rw[Q,m];omega)];have C:List.take deg (V deg)=(List.range deg).map D:=by
    show List.take deg ((List.range deg).map D++_)=_;exact List.take_left' (by simp)
   have I:∀y:Int,y=(((k+1+x.ts.length:Nat)):Int)->kG c W (k:Int) (N deg,V deg) y=some ((E.ag o x).den (JU W) deg p,(((k+(E.ag o x).ts.length:Nat)):Int)):=by
    rintro y rfl;unfold kG;dsimp only;rw[Q,m,cV ⟨by omega,by omega,by rw[J deg L];omega⟩,A,Int.toNat_natCast,C,bM (Ym c o _ (by omega) (by simp;omega) (by omega))];unfold nO;rw[P,show k+1+x.ts.length=k+(x.ts.length+1) by omega];rfl
   unfold rP;dsimp only;by_cases h0:deg=0
   ·rw[if_pos (by rw[Q,m];omega),bM (aaz c (E.ag o x) T j r S (by omega))];exact I _ (by rw[P];omega)
   ·rw[if_neg (by rw[Q,m];omega)];exact I _ (by simp only[N];rw[if_neg h0])
end Go.Proofs.YtjkjpdonlpdcaaaGreatDoor
namespace Go.Proofs.YtjkjpdonlpdcaaaGreatDoor
open Go.Sx
def gG (U:Nat) (a:Te) (b:bW) (c:Int) (d:b_):Option (Int):=
 Option.bind (bV U ((((((a.1.1,a.1.2.1,a.1.2.2)),((a.2.1.1,a.2.1.2)),a.2.2.1,a.2.2.2)),b,c,d)) (0:Int) (-1:Int)) λe=>(some (e.1))
theorem QB:aQ Tryz.prog 251:=Tryz.call251
theorem yH (U:Nat) {d:Te} {s:bW} {f:Int} {t:b_} (a:Nat)  (m:Value)  (n:Value)  (o:Value)  (p:Value)  (u:mH)  (q:Value)  (v:wL)  (e:Value)  (y:wL)  (b:Value) (r:Int) (h:gG U d s f t=some r):
  bA Tryz.prog 251 #[vP a,e,vI (f),b] [bH a [vS (d.1.1),m,n,o,p,vI (d.2.2.1),q] 212,Sl aW m d.1.2.1,Sl aM n d.1.2.2,Sl bN o d.2.1.1,S2 aO p u d.2.1.2,S2 bN q v d.2.2.2,S2 bN e y s,Sl aO b t] (λx:Unit=>vI (r)) (λx l=>l) (λ_ l=>l):=by
 refine bA.of Tryz.func251 Z Tryz.ntmps251 Z λc=>?_;refine aS<|aC Z<|aK<|aS<|aA Z<|aA Z<|aA Z<|aA Z<|dB (Know.one (aE.sl (aE.fact 6 Z))) λg=>dB (Know.one ((aE.fact 7 Z))) λi=>?_;refine aB (T_ (r:=Value.agg #[Value.pointer (some ⟨a,0,none⟩),e,vI (f),b]) Z Z Z Z (by intro w;simp[Instr.build,Instr.fill,eP,dV,dH,eQ,eR,dW,fS,iL g,iL i])) Z ?_;refine aG (aJ.alloc (cs:=[Value.pointer none,lS,vI (0:Int),lS]) Z Z) Z λz=>dB (Know.one (aE.sl (aE.fact 6 Z))) λj=>dB (Know.one ((aE.fact 7 Z))) λk=>bR 0 (vs:=[vP a,e,vI (f),b]) Z Z (dQ Z (dQ j (dQ Z (dQ k Z)))) Z Z Z<|aK<|aS<|eL h λA B h=>aG (aJ.callQ Bi (Dt U z a m n o p u q v e y b A B) Z (aD.cons (aE.res 0 Z) (lJ [0,1,2,3,4,5,6,7] Z))) Z λC=>aA Z<|iG Z<|iG Z<|aC Z<|aC Z<|aK<|aS<|aA Z<|aC Z<|aK<|aP ?_;cases h;exact sV Z
def kL (U:Nat) (a:Te) (c:bW) (d:Int) (b:Int):Option (Bool):=
 ck (0<=b∧b<(List.length a.1.2.2:Int)) (Option.bind (gG U ((((a.1.1,a.1.2.1,a.1.2.2)),((a.2.1.1,a.2.1.2)),a.2.2.1,a.2.2.2)) c d ((at' a.1.2.2 b).2.1.2)) λe=>(some (decide (e≠(0:Int)))))
theorem XO:aQ Tryz.prog 250:=Tryz.call250
theorem CY (U:Nat) {a:Te} {n:bW} {o:Int} {e:Int} (b:Nat)  (f:Value)  (g:Value)  (i:Value)  (j:Value)  (p:mH)  (k:Value)  (q:wL)  (m:Value)  (s:wL) (r:Bool) (h:kL U a n o e=some r):
  bA Tryz.prog 250 #[vP b,m,vI (o),vI (e)] [bH b [vS (a.1.1),f,g,i,j,vI (a.2.2.1),k] 212,Sl aW f a.1.2.1,Sl aM g a.1.2.2,Sl bN i a.2.1.1,S2 aO j p a.2.1.2,S2 bN k q a.2.2.2,S2 bN m s n] (λx:Unit=>vB (r)) (λx l=>l) (λ_ l=>l):=by
 refine bA.of Tryz.func250 Z Tryz.ntmps250 Z λc=>?_;refine aS<|aC Z<|aK<|aS<|aA Z<|aA Z<|aA Z<|aA Z<|aB (bZ Z) Z<|bX Z<|bX Z<|aB (dC Z (aE.fact 0 Z) Z Z Z) Z<|aA Z<|dK h λd h=>aB (aZ Z Z (aE.fact 2 Z) Z Z d) Z<|aB (mC Z Z Z Z Z) Z<|aB (jK Z (aE.fact 2 Z) Z Z Z Am d) Z<|eL h λt u h=>aG (aJ.callQ QB (yH U b f g i j p k q m s ((at' a.1.2.2 e).2.1.1) t u) Z (aD.cons (aE.fact 0 Z) (aD.cons (aE.fact 1 Z) (aD.cons (aE.fact 2 Z) (aD.cons (aE.fact 3 Z) (aD.cons (aE.fact 4 Z) (aD.cons (aE.fact 5 Z) (aD.cons (aE.fact 6 Z) (aD.cons (wO (aE.fact 2 Z) Ao d.1 d.2) .nil))))))))) Z λv=>oT Z<|aC Z<|aK<|aP ?_;cases h;exact kM Z
def nQ  (a:Unit):Option (Int):=
 some (-1:Int)
def kJ (U:Nat) (a:Hb) (d:bW) (e:Int) (b:Int) (c:(Int)->Option (Int)):Option (Int):=
 if b<(List.length a.1.2.2:Int)then(Option.bind (kL U ((((a.2.1.1.1,a.2.1.1.2.1,a.2.1.1.2.2)),((a.2.1.2.1.1,a.2.1.2.1.2)),a.2.1.2.2.1,a.2.1.2.2.2)) d e b) λf=>(if f=true then(some (b))else(c (wI .i64 (b+(1:Int))))))else(nQ  (()))
def eW (U:Nat) (a:Hb) (b:bW) (c:Int):Option (Int):=
 bP (kJ U a b c) U (0:Int)
theorem Qy:aQ Tryz.prog 222:=Tryz.call222
theorem zU (U:Nat) {a:Hb} {n:bW} {m:Int} (d:Nat)  (z:Value)  (A:Value)  (e:Nat)  (o:Value)  (p:Value)  (q:Value)  (s:Value)  (B:mH)  (t:Value)  (g:wL)  (f:Value)  (v:mH)  (b:Value)  (i:wL) (r:Int) (h:eW U a n m=some r):
  bA Tryz.prog 222 #[vP d,b,vI (m)] [bH d [vS (a.1.1),z,A,vP e,f] 165,Sl aW z a.1.2.1,Sl aM A a.1.2.2,bH e [vS (a.2.1.1.1),o,p,q,s,vI (a.2.1.2.2.1),t] 212,Sl aW o a.2.1.1.2.1,Sl aM p a.2.1.1.2.2,Sl bN q a.2.1.2.1.1,S2 aO s B a.2.1.2.1.2,S2 bN t g a.2.1.2.2.2,S2 aO f v a.2.2,S2 bN b i n] (λx:Unit=>vI (r)) (λx l=>l) (λ_ l=>l):=by
 refine bA.of Tryz.func222 Z Tryz.ntmps222 Z λc=>?_;unfold eW at h;refine aS<|aC Z<|aK<|aI<|d_ (λj=>nQ  j=some r) (λj w=>[]) (λj w=>[]) ?_ ?_
 ·refine aS<|aA Z<|aB (bZ Z) Z<|bX Z<|bX Z<|aB (dC Z (aE.fact 0 Z) Z Z Z) Z<|iH (aE.fact 2 Z) Z<|aA Z<|aK<|aU<|eH (kJ U a n m) (λk y=>[(0,vP d),(1,b),(2,vI (m)),(13,vI (List.length a.1.2.2:Int)),(14,vI (k))]) (λk y=>[]) (0:Int) () h SF (aY.refl _) ?_;intro E k y h;refine aS<|cP Z<|aK<|aI ?_;refine eZ h Z (λh=>?_) λh=>?_
  ·refine cE<|aI<|aU<|aS<|aA Z<|aC Z<|aK<|aS<|aA Z<|aB (bZ Z) Z<|bX Z<|aB (dC Z (aE.fact 0 Z) Z Z Z) Z<|aA Z<|aA Z<|aA Z<|eL h λC u h=>aG (aJ.callQ XO (CY U e o p q s B t g b i C u) Z (lJ [3,4,5,6,7,8,10] Z)) Z λD=>aK ?_;refine yC h Z (λ_ h=>?_) λ_ h=>?_
   ·refine aS<|aA Z<|aC Z<|aK<|aP<|bO<|aH<|aH<|bO<|aH ?_;cases h;exact kM Z
   refine dJ<|mP<|aR<|cO Z<|aA Z<|aK ?_;exact Ai (wI .i64 (k+(1:Int))) () h SF Z
  refine fE ?_;exact iI () (()) h SF Z
 intro j w h;unfold nQ at h;refine aS<|aC Z<|aK<|aP ?_;cases h;exact kM Z
def uQ (d:Int) (a:eD) (b:Int) (c:Bool):Option (Int):=
 if c=true then(some (b))else(if d=(3:Int)then(some (-1:Int))else(if b<a.1 then(some (a.1))else(some (a.2))))
def xQ (U:Nat) (c:Int) (a:eD) (b:Int):Option (Int):=
 if a.1<=b then(uQ c a b (decide (b<=a.2)))else(uQ c a b (false))
theorem aam:aQ Tryz.prog 99:=Tryz.call99
theorem JC (U:Nat) {e:Int} {a:eD} {d:Int} (r:Int) (h:xQ U e a d=some r):
  bA Tryz.prog 99 #[vI (e),Value.agg #[vI (a.1),vI (a.2)],vI (d)] [] (λx:Unit=>vI (r)) (λx l=>l) (λ_ l=>l):=by
 refine bA.of Tryz.func99 Z Tryz.ntmps99 Z λc=>?_;refine aS<|aG (aJ.box (cs:=[vI (a.1),vI (a.2)]) Z Z) Z λf=>aC Z<|aK<|aI<|aU<|aI<|d_ (λb=>uQ e a d b=some r) (λb g=>[(0,vI (e)),(2,vI (d)),(4,vP f),(7,vB (b))]) (λb g=>[bH f [vI (a.1),vI (a.2)] 53]) ?_ ?_
 ·refine aR<|aA Z ?_;refine aB (iV (i:=0) Z Z Z Z Z (by decide)) Z ?_;refine cJ 0 Z<|aB (wP Z Z) Z<|aA Z ?_;refine Cd h Z (λ_ h=>?_) λ_ h=>?_
  ·refine eS Z ?_;refine aV Z (iV (i:=1) Z Z Z Z Z (by decide)) Z ?_;refine aV Z (cK 0 Z Z Z Z Z) Z<|aV Z (BO Z Z) Z<|dU Z<|aC Z<|aK ?_;exact iI (decide (d<=a.2)) () h SF Z
  refine aL Z<|aL Z<|aL Z<|aL Z<|e_ Z<|aC Z<|aK ?_;exact iI (false) () h SF Z
 intro b g h;refine yC h Z (λ_ h=>?_) λ_ h=>?_
 ·refine aS<|aA Z<|aC Z<|aK<|aP<|bO<|aH ?_;cases h;exact sV Z
 refine aS<|aA Z<|cC Z<|aC Z<|aK ?_;refine eZ h Z (λh=>?_) λh=>?_
 ·refine aS<|aC Z<|aK<|aP<|bO<|aH ?_;cases h;exact sV Z
 refine aS<|aA Z ?_;refine aB (iV (i:=0) Z Z Z Z Z (by decide)) Z ?_;refine cJ 0 Z<|cP Z<|aC Z<|aK ?_;refine eZ h Z (λh=>?_) λh=>?_
 ·refine aS ?_;refine aB (iV (i:=0) Z Z Z Z Z (by decide)) Z ?_;refine cJ 0 Z<|aC Z<|aK<|aP<|bO<|aH ?_;cases h;exact sV Z
 refine dJ<|mP<|aS ?_;refine aB (iV (i:=1) Z Z Z Z Z (by decide)) Z ?_;refine cJ 0 Z<|aC Z<|aK<|aP ?_;cases h;exact sV Z
def nP  (a:aT):Option aT:=
 some (a)
def kI (U:Nat) (b:Hb) (h:bW) (d:Int) (c:Int) (a:Bu) (e:(Int×aT)->Option aT):Option aT:=
 if a.1<(List.length ((at' b.1.2.2 c).2.2.2):Int)then(ck (0<=a.1∧a.1<(List.length ((at' b.1.2.2 c).2.2.2):Int)) (Option.bind (gG U ((((b.2.1.1.1,b.2.1.1.2.1,b.2.1.1.2.2)),((b.2.1.2.1.1,b.2.1.2.1.2)),b.2.1.2.2.1,b.2.1.2.2.2)) h d ((at' ((at' b.1.2.2 c).2.2.2) a.1).2.2)) λf=>(ck (0<=((at' ((at' b.1.2.2 c).2.2.2) a.1).1)∧((at' ((at' b.1.2.2 c).2.2.2) a.1).1)<(List.length b.1.2.1:Int)) (ck (0<=d∧d<(List.length b.2.2:Int)) (ck (0<=((at' ((at' b.1.2.2 c).2.2.2) a.1).1)∧((at' ((at' b.1.2.2 c).2.2.2) a.1).1)<(List.length (at' b.2.2 d):Int)) (Option.bind (xQ U ((at' b.1.2.1 ((at' ((at' b.1.2.2 c).2.2.2) a.1).1)).2.1) ((((at' (at' b.2.2 d) ((at' ((at' b.1.2.2 c).2.2.2) a.1).1)).1),((at' (at' b.2.2 d) ((at' ((at' b.1.2.2 c).2.2.2) a.1).1)).2))) f) λg=>(ck (0<=((at' ((at' b.1.2.2 c).2.2.2) a.1).1)∧((at' ((at' b.1.2.2 c).2.2.2) a.1).1)<(List.length a.2:Int)) (e ((wI .i64 (a.1+(1:Int))),(List.set a.2 (Int.toNat ((at' ((at' b.1.2.2 c).2.2.2) a.1).1)) g))))))))))else(nP  (a.2))
def lG (U:Nat) (d:Hb) (b:bW) (a:Int) (c:Int):Option aT:=
 ck (0<=a∧a<(List.length b:Int)) (ck ((List.length ([]:aT):Int)+(List.length (at' b a):Int)<=1099511627) (ck (0<=c∧c<(List.length d.1.2.2:Int)) (bP (kI U d b a c) U ((0:Int),(([]:aT)++(at' b a))))))
theorem XM:aQ Tryz.prog 224:=Tryz.call224
theorem Du (U:Nat) {b:Hb} {C:bW} {m:Int} {f:Int} (j:Nat)  (O:Value)  (P:Value)  (k:Nat)  (E:Value)  (F:Value)  (G:Value)  (H:Value)  (Q:mH)  (I:Value)  (y:wL)  (w:Value)  (M:mH)  (i:Value)  (A:wL) (r:aT) (h:lG U b C m f=some r):
  bA Tryz.prog 224 #[vP j,i,vI (m),vI (f)] [bH j [vS (b.1.1),O,P,vP k,w] 165,Sl aW O b.1.2.1,Sl aM P b.1.2.2,bH k [vS (b.2.1.1.1),E,F,G,H,vI (b.2.1.2.2.1),I] 212,Sl aW E b.2.1.1.2.1,Sl aM F b.2.1.1.2.2,Sl bN G b.2.1.2.1.1,S2 aO H Q b.2.1.2.1.2,S2 bN I y b.2.1.2.2.2,S2 aO w M b.2.2,S2 bN i A C] (λx:Value=>x) (λx l=>Ar cM x r::l) (λ_ l=>l):=by
 refine bA.of Tryz.func224 Z Tryz.ntmps224 Z λc=>?_;refine aS<|aC Z<|aK<|aS<|aA Z<|aA Z<|dK h λB h=>aB (cQ Z Z (aE.fact 10 Z) Z Z B) Z<|aB (cL Z (aE.fact 10 Z) Z Z B) Z<|jY (f_ cM)<|dK h λS h=>aG (g_ 0 cU Z Z Z (aE.el (aE.fact 10 Z) B.1 B.2) Z Z Z Z S Z) Z λv=>aC Z<|aK<|aI<|d_ (λo=>nP  o=some r) (λo N=>[(9,v)]) (λo N=>[Ar cM v o]) ?_ ?_
 ·refine aS<|aA Z<|aB (bZ Z) Z<|bX Z<|bX Z<|aB (dC Z (aE.fact 0 Z) Z Z Z) Z<|aA Z<|dK h λg h=>aB (aZ Z Z (aE.fact 2 Z) Z Z g) Z<|aB (mC Z Z Z Z Z) Z<|aB (jK Z (aE.fact 2 Z) Z Z Z An g) Z<|aB (fG Z (wO (aE.fact 2 Z) gJ g.1 g.2) Z) Z<|aA Z<|aK<|aU<|eH (kI U b C m f) (λa p=>[(0,vP j),(1,i),(2,vI (m)),(9,v),(26,(at' b.1.2.2 f).2.2.1),(27,vI (List.length ((at' b.1.2.2 f).2.2.2):Int)),(28,vI (a.1))]) (λa p=>[Ar cM v a.2]) ((0:Int),(([]:aT)++(at' C m))) () h SF (aY.refl _) ?_;intro T a p h;refine aS<|cP Z<|aK<|aI ?_;refine eZ h Z (λh=>?_) λh=>?_
  ·refine cE<|aI<|aU<|aS<|dK h λd h=>aB (aZ Z Z (wO (aE.fact 2 Z) gJ g.1 g.2) Z Z d) Z<|aB (OW (cs:=[vI ((at' ((at' b.1.2.2 f).2.2.2) a.1).1),(at' ((at' b.1.2.2 f).2.2.2) a.1).2.1]) Z (wO (aE.fact 2 Z) gJ g.1 g.2) JQ Z Z Z Z d) Z<|aG (aJ.alloc (cs:=[vI (0:Int),lS]) Z Z) Z λR=>dB (Know.one ((wO (wO (aE.fact 2 Z) gJ g.1 g.2) CO d.1 d.2))) λq=>bR 0 (vs:=[vI ((at' ((at' b.1.2.2 f).2.2.2) a.1).1),(at' ((at' b.1.2.2 f).2.2.2) a.1).2.1]) Z Z (dQ Z (dQ q Z)) Z Z Z<|aK<|aI ?_;refine JR.start [0,1,3,7,0,0,0,64,255,511] 8 mixedOrders (by decide +kernel) ?_;refine JR.open (by exact rfl) ?_;refine bE Z<|fY Z (bZ Z)<|cN Z<|bI Z .nil (h_ 0 Z) (dC Z (aE.fact 0 Z) Z Z Z) aN.z<|bE Z<|bE Z<|cN Z<|dY 0 Z<|bK 8 Z Z<|eL h λD J h=>aG (aJ.callQ QB (yH U k E F G H Q I y i A ((at' ((at' b.1.2.2 f).2.2.2) a.1).2.1) D J) Z (aD.cons (aE.fact 3 Z) (aD.cons (aE.fact 4 Z) (aD.cons (aE.fact 5 Z) (aD.cons (aE.fact 6 Z) (aD.cons (aE.fact 7 Z) (aD.cons (aE.fact 8 Z) (aD.cons (aE.fact 10 Z) (aD.cons (wO (wO (aE.fact 2 Z) gJ g.1 g.2) CO d.1 d.2) .nil))))))))) Z λV=>aC Z<|aK ?_;refine JR.start [0,0,2,0,8,24,56,120,0,256,1016,2040,4088,0,8192,24576,57344,0,253952,516096,0,1048576,4186112,8380416,0,33554424,67108863,134217727] 26 mixedOrders (by decide +kernel) ?_;refine JR.open (by exact rfl) ?_;refine bE Z<|cN Z<|dY 0 Z<|bE Z<|fY Z (bZ Z)<|cN Z<|cN Z<|bI Z .nil (h_ 0 Z) (dC Z (aE.fact 0 Z) Z Z Z) aN.z<|cN Z<|dY 0 Z<|dK h λs h=>bI Z .nil (h_ 1 Z) (aZ Z Z (aE.fact 0 Z) Z Z s) aN.z<|fY Z (mC Z Z Z Z Z)<|bI Z .nil (h_ 1 Z) (jK Z (aE.fact 0 Z) Z Z Z yG s) aN.z<|bE Z<|fY Z (bZ Z)<|cN Z<|bI Z .nil (h_ 0 Z) (dC Z (aE.fact 0 Z) Z Z Z) aN.z<|bE Z<|dK h λe h=>bI Z .nil (h_ 9 Z) (cQ Z Z (aE.fact 0 Z) Z Z e) aN.z<|bI Z .nil (h_ 9 Z) (cL Z (aE.fact 0 Z) Z Z e) aN.z<|cN Z<|dY 0 Z<|dK h λt h=>bI Z .nil (h_ 9 Z) (aZ Z Z (aE.el (aE.fact 0 Z) e.1 e.2) Z Z t) aN.z<|bI Z .nil (h_ 9 Z) (c_ (cs:=[vI ((at' (at' b.2.2 m) ((at' ((at' b.1.2.2 f).2.2.2) a.1).1)).1),vI ((at' (at' b.2.2 m) ((at' ((at' b.1.2.2 f).2.2.2) a.1).1)).2)]) Z (aE.el (aE.fact 0 Z) e.1 e.2) bB Z Z Z Z t) aN.z<|bE Z<|eL h λn K h=>JR.loud Z Z Z (aJ.callQ aam (JC U  n K) Z .nil) Z (λL=>(jV [([0],[])] Z)) λL=>bK 26 Z Z<|dK h λu h=>aB (aZ Z Z (aX (aE.res 1 Z) cU) Z Z u) Z<|BL 1 n u Z Z Z Z Z Z Z<|fF<|mP<|aR<|cO Z<|aA Z<|aK ?_;exact lT ((wI .i64 (a.1+(1:Int))),(List.set a.2 (Int.toNat ((at' ((at' b.1.2.2 f).2.2.2) a.1).1)) n)) () h SF (aY.ix [1] Z Z) (aD.refl _ _)
  refine fE ?_;exact iI (a.2) () h SF Z
 intro o N h;unfold nP at h;refine aS<|aA Z<|aC Z<|aK<|aP ?_;cases h;exact kC (v) Z Z (RV.tmp Z) (aY.refl _) aD.nil
def nR  (a:bW):Option bW:=
 some (a)
def kK (b:Int×bW) (a:(Int×bW)->Option bW) (c:bW):Option bW:=
 a ((wI .i64 (b.1+(1:Int))),c)
def iJ (U:Nat) (b:Hb) (d:bW) (g:Int) (a:Int×bW) (c:(Int×bW)->Option bW):Option bW:=
 if a.1<(List.length d:Int)then(ck (0<=a.1) (if(eO .u32 (vN .u32 g a.1) (1:Int))=(1:Int)then(Option.bind (eW U ((((b.1.1,b.1.2.1,b.1.2.2)),((((b.2.1.1.1,b.2.1.1.2.1,b.2.1.1.2.2)),((b.2.1.2.1.1,b.2.1.2.1.2)),b.2.1.2.2.1,b.2.1.2.2.2)),b.2.2)) d a.1) λe=>(Option.bind (lG U ((((b.1.1,b.1.2.1,b.1.2.2)),((((b.2.1.1.1,b.2.1.1.2.1,b.2.1.1.2.2)),((b.2.1.2.1.1,b.2.1.2.1.2)),b.2.1.2.2.1,b.2.1.2.2.2)),b.2.2)) d a.1 e) λf=>(ck (0<=a.1∧a.1<(List.length a.2:Int)) (kK a c (List.set a.2 (Int.toNat a.1) f)))))else(kK a c (a.2))))else(nR  (a.2))
def jE (U:Nat) (b:Hb) (a:bW) (c:Int):Option bW:=
 Option.bind (uD U a) λd=>(bP (iJ U b a c) U ((0:Int),d))
theorem XA:aQ Tryz.prog 168:=Tryz.call168
theorem Dv (U:Nat) {e:Hb} {v:bW} {w:Int} (g:Nat)  (D:Value)  (E:Value)  (o:Nat)  (F:Value)  (G:Value)  (H:Value)  (I:Value)  (Q:mH)  (J:Value)  (t:wL)  (p:Value)  (u:mH)  (d:Value)  (q:wL) (r:bW) (h:jE U e v w=some r):
  bA Tryz.prog 168 #[vP g,d,vU (w)] [bH g [vS (e.1.1),D,E,vP o,p] 165,Sl aW D e.1.2.1,Sl aM E e.1.2.2,bH o [vS (e.2.1.1.1),F,G,H,I,vI (e.2.1.2.2.1),J] 212,Sl aW F e.2.1.1.2.1,Sl aM G e.2.1.1.2.2,Sl bN H e.2.1.2.1.1,S2 aO I Q e.2.1.2.1.2,S2 bN J t e.2.1.2.2.2,S2 aO p u e.2.2,S2 bN d q v] (λx:Value×List Value=>x.1) (λx l=>Ar eK.raw x.1 x.2::k_ cM x.2 r::l) (λ_ l=>l):=by
 refine bA.of Tryz.func168 Z Tryz.ntmps168 Z λc=>?_;refine aS<|aC Z<|aK<|aS<|aA Z<|eL h λR S h=>aG (aJ.callQ Uv (EF U d q R S) Z (lJ [10] Z)) Z λs=>aC Z<|aK<|aI<|Cz (B:=iP) (λy=>nR  y=some r) (λy z=>[(7,s.1)]) (λy z=>[Ar eK.raw s.1 z,k_ cM z y]) ?_ ?_
 ·refine aS<|aA Z<|aB (lY Z (aE.fact 10 Z) Z) Z<|aA Z<|aK<|aU<|eH (B:=iP) (iJ U e v w) (λa b=>[(0,vP g),(1,d),(2,vU (w)),(7,s.1),(12,vI (List.length v:Int)),(13,vI (a.1))]) (λa b=>[Ar eK.raw s.1 b,k_ cM b a.2]) ((0:Int),R) (s.2) h SF (aY.refl _) ?_;intro L a b h;refine aS<|cP Z<|aK<|aI ?_;refine eZ h Z (λh=>?_) λh=>?_
  ·refine cE<|aI<|Cz (B:=iP) (λf=>kK a (bP (iJ U e v w) L) f=some r) (λf m=>[(0,vP g),(1,d),(2,vU (w)),(7,s.1),(12,vI (List.length v:Int)),(13,vI (a.1))]) (λf m=>[Ar eK.raw s.1 m,k_ cM m f]) ?_ ?_
   ·refine aU<|aS<|aA Z<|aC Z<|aK<|aS<|aA Z<|aA Z<|dK h λK h=>aB (Km Z Z K) Z<|Ak Z<|cC Z<|aK ?_;refine eZ h Z (λh=>?_) λh=>?_
    ·refine aR<|aA Z<|aA Z<|aA Z<|aA Z<|aA Z<|aA Z<|aA Z<|aA Z<|eL h λM N h=>aG (aJ.callQ Qy (zU U g D E o F G H I Q J t p u d q M N) Z (lJ [0,1,2,3,4,5,6,7,8,9,10] Z)) Z λT=>eL h λC O h=>aG (aJ.callQ XM (Du U g D E o F G H I Q J t p u d q C O) Z (lJ [0,1,2,3,4,5,6,7,8,9,10] Z)) Z λP=>dK h λn h=>aB (cQ Z Z (bJ (i:=1) (j:=2) Z Z cU) Z Z n) Z<|dB (Know.one ((aX (aE.res 0 Z) cU))) λA=>jY (yL (k:=a.1) 2 0 Z Z Z n) ?_;refine qA 0 1 ⟨n.1,by first|exact n.2|simpa using n.2⟩ Z Z Z Z Z (by simp) A Z ?_;refine fF<|mP ?_;exact iI (List.set a.2 (Int.toNat a.1) C) (List.set b (Int.toNat a.1) P) h SF Z
    refine dJ<|mP ?_;exact iI (a.2) (b) h SF Z
   intro f m h;unfold kK at h;refine aR<|cO Z<|aA Z<|aK ?_;exact Ai ((wI .i64 (a.1+(1:Int))),f) (m) h SF Z
  refine fE ?_;exact iI (a.2) (b) h SF Z
 intro y z h;unfold nR at h;refine aS<|aA Z<|aC Z<|aK<|aP ?_;cases h;exact kC (s.1,z) Z Z (RV.tmp Z) (aY.refl _) aD.nil
def zJ  (a:Int):Option (Int):=
 some (a)
def uK (c:eD) (b:iO->Option (Int)) (a:Int):Option (Int):=
 b (a,(wI .i64 (c.2+(1:Int))))
def rM (e:Int) (d:Int->Option Bool) (a:eD) (b:iO->Option (Int)):Option (Int):=
 if a.2<e then(Option.bind (d a.2) λc=>(if c=true then(ck (0<=a.2) (uK a b (JS .u32 a.1 (BB .u32 (1:Int) a.2))))else(uK a b (a.1))))else(zJ  (a.1))
def Aw (U:Nat) (b:Int) (a:Int->Option Bool):Option (Int):=
 bP (rM b a) U ((0:Int),(0:Int))
theorem XJ:aQ Tryz.prog 220:=Tryz.call220
theorem Mm (U:Nat) {j:Int} {n:Int->Option Bool} (m:FuncId) (d:iP) (k:List bD) (f:aQ Tryz.prog m) (g:∀(u:Int) (r:Bool),n u=some r->bA Tryz.prog m ([vI (u)]++d).toArray k (λ_:Unit=>vB (r)) (λ_ l=>l) (λ_ l=>l)) (r:Int) (h:Aw U j n=some r):
  bA Tryz.prog 220 #[vI (j),Value.func (.func m) #[] (d).toArray] ([]++k) (λx:Unit=>vU (r)) (λx l=>l) (λ_ l=>l):=by
 refine bA.of Tryz.func220 Z Tryz.ntmps220 Z λc=>?_;unfold Aw at h;refine aS<|aC Z<|aK<|aS<|aC Z<|aK<|aI<|EM (B:=Unit) (λi=>zJ  i=some r) (λi o=>[(5,vU (i))]) (λi o=>[]) (λi o=>([]++k)) ?_ ?_
 ·refine aS<|aA Z<|aA Z<|aK<|aU<|HQ (B:=Unit) (rM j n) (λb p=>[(1,Value.func (.func m) #[] (d).toArray),(5,vU (b.1)),(7,vI (j)),(8,vI (b.2))]) (λb p=>[]) (λb p=>([]++k)) ((0:Int),(0:Int)) () h SF (aY.refl _) (aD.refl _ _) ?_;intro v b p h;refine aS<|cP Z<|aK<|aI ?_;refine eZ h Z (λh=>?_) λh=>?_
  ·refine cE<|aI<|EM (B:=Unit) (λa=>uK b (bP (rM j n) v) a=some r) (λa e=>[(1,Value.func (.func m) #[] (d).toArray),(5,vU (a)),(7,vI (j)),(8,vI (b.2))]) (λa e=>[]) (λa e=>([]++k)) ?_ ?_
   ·refine aU<|aS<|aA Z<|aC Z<|aK<|aS<|aA Z<|aA Z<|eL h λs t h=>aG (fQ (vs:=[vI (b.2)]) (cs:=d) f Z (g b.2 s t) Z (aD.tail _) (λ_ _=>rfl)) Z λw=>aK ?_;refine yC h Z (λ_ h=>?_) λ_ h=>?_
    ·refine aR<|aA Z<|aA Z<|dK h λq h=>aB (Kl Z Z q) Z<|aB (Uc Z Z) Z<|aC Z<|fF<|mP ?_;exact iI (JS .u32 b.1 (BB .u32 (1:Int) b.2)) () h SF Z
    refine dJ<|mP ?_;exact iI (b.1) () h SF Z
   intro a e h;unfold uK at h;refine aR<|cO Z<|aA Z<|aK ?_;exact Ai (a,(wI .i64 (b.2+(1:Int)))) () h SF Z
  refine fE ?_;exact iI (b.1) () h SF Z
 intro i o h;unfold zJ at h;refine aS<|aA Z<|aC Z<|aK<|aP ?_;cases h;exact kM Z
def kE (U:Nat) (b:Int) (a:Hb) (c:bW):Option (Bool):=
 Option.bind (eW U ((((a.1.1,a.1.2.1,a.1.2.2)),((((a.2.1.1.1,a.2.1.1.2.1,a.2.1.1.2.2)),((a.2.1.2.1.1,a.2.1.2.1.2)),a.2.1.2.2.1,a.2.1.2.2.2)),a.2.2)) c b) λd=>(some (decide ((0:Int)<=d)))
theorem XK:aQ Tryz.prog 221:=Tryz.call221
theorem A_ (U:Nat) {v:Int} {a:Hb} {w:bW} (j:Nat)  (d:Nat)  (o:Value)  (p:Value)  (e:Nat)  (q:Value)  (s:Value)  (t:Value)  (u:Value)  (y:mH)  (f:Value)  (k:wL)  (g:Value)  (m:mH)  (b:Nat)  (i:Value)  (n:wL) (r:Bool) (h:kE U v a w=some r):
  bA Tryz.prog 221 #[vI (v),vP j,vP b] [bH j [vP d] 75,bH d [vS (a.1.1),o,p,vP e,g] 165,Sl aW o a.1.2.1,Sl aM p a.1.2.2,bH e [vS (a.2.1.1.1),q,s,t,u,vI (a.2.1.2.2.1),f] 212,Sl aW q a.2.1.1.2.1,Sl aM s a.2.1.1.2.2,Sl bN t a.2.1.2.1.1,S2 aO u y a.2.1.2.1.2,S2 bN f k a.2.1.2.2.2,S2 aO g m a.2.2,bH b [i] 30,S2 bN i n w] (λx:Unit=>vB (r)) (λx l=>l) (λ_ l=>l):=by
 refine bA.of Tryz.func221 Z Tryz.ntmps221 Z λc=>?_;refine aS<|aC Z<|aK<|aS<|aB (dC Z (aE.fact 0 Z) Z Z Z) Z<|aB (dC Z (aE.fact 11 Z) Z Z Z) Z<|aA Z<|eL h λz A h=>aG (aJ.callQ Qy (zU U d o p e q s t u y f k g m i n z A) Z (lJ [1,2,3,4,5,6,7,8,9,10,12] Z)) Z λB=>aB (wP Z Z) Z<|aC Z<|aK<|aP ?_;cases h;exact kM Z
def eI (U:Nat) (a:Hb) (b:bW):Option (Int):=
 Option.bind (Aw U (List.length a.2.2:Int) (λd=>kE U d ((((a.1.1,a.1.2.1,a.1.2.2)),((((a.2.1.1.1,a.2.1.1.2.1,a.2.1.1.2.2)),((a.2.1.2.1.1,a.2.1.2.1.2)),a.2.1.2.2.1,a.2.1.2.2.2)),a.2.2)) b)) λc=>(some (c))
theorem Qs:aQ Tryz.prog 165:=Tryz.call165
theorem wW (U:Nat) {a:Hb} {w:bW} (b:Nat)  (k:Value)  (m:Value)  (e:Nat)  (n:Value)  (o:Value)  (p:Value)  (q:Value)  (y:mH)  (s:Value)  (g:wL)  (f:Value)  (i:mH)  (d:Value)  (j:wL) (r:Int) (h:eI U a w=some r):
  bA Tryz.prog 165 #[vP b,d] [bH b [vS (a.1.1),k,m,vP e,f] 165,Sl aW k a.1.2.1,Sl aM m a.1.2.2,bH e [vS (a.2.1.1.1),n,o,p,q,vI (a.2.1.2.2.1),s] 212,Sl aW n a.2.1.1.2.1,Sl aM o a.2.1.1.2.2,Sl bN p a.2.1.2.1.1,S2 aO q y a.2.1.2.1.2,S2 bN s g a.2.1.2.2.2,S2 aO f i a.2.2,S2 bN d j w] (λx:Unit=>vU (r)) (λx l=>l) (λ_ l=>l):=by
 refine bA.of Tryz.func165 Z Tryz.ntmps165 Z λc=>?_;refine aS<|aG (aJ.box (cs:=[vP b]) Z Z) Z λt=>dB (Know.one (aE.sl (aE.fact 10 Z))) λv=>?_;refine aG (aJ.box (cs:=[d]) Z (by rw[iL v])) Z λu=>?_;refine aC Z<|aK<|aS<|cJ 1 Z<|aB (bZ Z) Z<|bX Z<|aB (dC Z (aE.fact 0 Z) Z Z Z) Z<|aB (lY Z (aE.fact 9 Z) Z) Z<|aB (dZ (cs:=[.tmp 2,.tmp 3]) (vs:=[vP t,vP u]) Z) Z<|eL h λz A h=>aG (aJ.callQ XJ (Mm U 221 [vP t,vP u] [bH t [vP b] 75,bH b [vS (a.1.1),k,m,vP e,f] 165,Sl aW k a.1.2.1,Sl aM m a.1.2.2,bH e [vS (a.2.1.1.1),n,o,p,q,vI (a.2.1.2.2.1),s] 212,Sl aW n a.2.1.1.2.1,Sl aM o a.2.1.1.2.2,Sl bN p a.2.1.2.1.1,S2 aO q y a.2.1.2.1.2,S2 bN s g a.2.1.2.2.2,S2 aO f i a.2.2,bH u [d] 30,S2 bN d j w] XK (λC r h=>A_ U t b k m e n o p q y s g f i u d j r h) z A) Z (aD.cons (aE.res 1 Z) (aD.cons (aE.fact 0 Z) (aD.cons (aE.fact 1 Z) (aD.cons (aE.fact 2 Z) (aD.cons (aE.fact 3 Z) (aD.cons (aE.fact 4 Z) (aD.cons (aE.fact 5 Z) (aD.cons (aE.fact 6 Z) (aD.cons (aE.fact 7 Z) (aD.cons (aE.fact 8 Z) (aD.cons (aE.fact 9 Z) (aD.cons (aE.res 0 Z) (lJ [10] Z)))))))))))))) Z λB=>aC Z<|aK<|aP ?_;cases h;exact sV Z
end Go.Proofs.YtjkjpdonlpdcaaaGreatDoor
namespace Go.Proofs.YtjkjpdonlpdcaaaGreatDoor
open Go Go.Sx
abbrev RL:=E×List (Nat×E)
abbrev By:=Gq×GR×Int×bW
def HA (R:List RL):Of:=R.map λr=>(r.1.ts,r.2.map λs=>((s.1:Int),s.2.ts))
def Ku (a:Nat) (e:E):Bool:=e.wf a false&&decide (e.depth<=100)&&decide (e.ts.length<=800)
def AN (a:Nat) (R:List RL):Bool:=decide (R.length<=20)&&R.all λr=>Ku a r.1&&decide (r.2.length<=20)&&r.2.all λs=>decide (s.1<a)&&Ku a s.2
instance:Inhabited E:=⟨.lf 1 0⟩
def Ql (g:GR) (v i:Nat):Int:=CC (row g (iA (row g v) i).1.toNat) (v:Int)
def fV (g:GR):bW:=(List.range g.2.length).map λv=>(List.range (row g v).length).map (Ql g v)
def pL (S:By) (c:bW) (v:Nat) (e:E):Int:=e.den (JU (S,c,(v:Int),[])) (row S.2.1 v).length (-1)
def rC (S:By) (R:List RL) (c:bW) (v:Nat):Int:=qB (R.map λr=>pL S c v r.1)
def w_ (a:Int) (b:eD) (x:Int):Int:=if b.1<=x∧x<=b.2 then x else if a=3 then -1 else if x<b.1 then b.1 else b.2
def GY (S:By) (a:List Hi) (c:bW) (v:Nat) (b:aT) (s:Nat×E):aT:=b.set s.1 (w_ (at' a (s.1:Int)).2.1 (tJ S.2.1 a v s.1) (pL S c v s.2))
def Aj (S:By) (a:List Hi) (R:List RL) (c:bW) (v:Nat) (i:Int):aT:=(at' R i).2.foldl (GY S a c v) (at' c (v:Int))
def enD (S:By) (R:List RL) (c:bW):Nat:=wU (λv=>decide (0<=rC S R c v)) S.2.1.2.length
def zT (S:By) (a:List Hi) (R:List RL) (c:bW) (t:Nat):bW:=(List.range c.length).map λv=>if t.testBit v=true then Aj S a R c v (rC S R c v)else at' c (v:Int)
structure wZ (g:GR) (nv:Nat) (c:bW):Prop where
 len:c.length=g.2.length
 row:∀v:Nat,v<g.2.length->(at' c (v:Int)).length=nv
theorem MN.shape {g:GR} {c:bW} {a:List Hi} (h:MN g c a):wZ g a.length c:=⟨h.len,h.row⟩
section
variable {S:By} {nv:Nat} {c:List (List Int)} {v:Nat}
theorem wok (b:S.2.2.2=fV S.2.1) (d:VG S.2.1) (e:wZ S.2.1 nv c) (h:v<S.2.1.2.length) (j:List (Int×Int)):WOk (S,c,(v:Int),j) nv S.2.1.2.length v:=by
 refine⟨rfl,h,rfl,d.len,e.len,e.row,λu a i g=> ?_,by show S.2.2.2.length=_;rw[b];simp[fV],λu a=>by
  show(at' S.2.2.2 (u:Int)).length=_;rw[b,fV,xY _ a,List.length_map,List.length_range]⟩
 obtain⟨w,k,f⟩:=d.to a g;show 0<=(iA (row S.2.1 u) i).1∧(iA (row S.2.1 u) i).1<_;rw[f];omega
theorem On (i:S.2.2.2=fV S.2.1) (a:VG S.2.1) (j:wZ S.2.1 nv c) (f:v<S.2.1.2.length) {e:E} (b:Ku nv e=true):gG 1000 S c (v:Int) e.ts=some (pL S c v e):=by
 simp only[Ku,Bool.and_eq_true,decide_eq_true_eq]at b;have g:=a.n24;have d:=(a.node v f).deg;unfold gG;have:=WF (wok i a j f e.ts) (deg:=(row S.2.1 v).length) Z (by omega) b.2 e false 1000 0 (-1) [] [] (by simp) Z b.1.1 (λh=>by cases h) (by omega);rw[bM (show bV 1000 _ (0:Int) (-1)=_ from this)];rfl
end
section
variable {p:Gq} {g:GR} {gr:Int} {R:List RL} {nv:Nat} {c:List (List Int)} {v:Nat}
theorem FP (a:p.2.2.map AB=HA R):p.2.2.length=R.length:=by simpa [HA]using congrArg List.length a
theorem Ri (b:p.2.2.map AB=HA R) {i:Nat} (a:i<R.length):AB (at' p.2.2 (i:Int))=((at' R (i:Int)).1.ts,(at' R (i:Int)).2.map λs=>((s.1:Int),s.2.ts)):=by
 have d:=FP b;have:=congrArg (λq=>q[i]?) b;simp only[HA,List.getElem?_map,List.getElem?_eq_getElem a,List.getElem?_eq_getElem (show i<p.2.2.length by omega),Option.map_some,Option.some.injEq]at this;rw[nU a,nU (show i<p.2.2.length by omega)];exact this
theorem Rq (a:AN nv R=true) {i:Nat} (b:i<R.length):Ku nv (at' R (i:Int)).1=true∧(at' R (i:Int)).2.length<=20∧∀s∈(at' R (i:Int)).2,s.1<nv∧Ku nv s.2=true:=by
 simp only[AN,Bool.and_eq_true,List.all_eq_true,decide_eq_true_eq]at a;have:=a.2 (at' R (i:Int)) (by rw[nU b];exact List.getElem_mem b);exact⟨this.1.1,this.1.2,λs d=>this.2 s d⟩
theorem YV (a:AN nv R=true):R.length<=20:=by
 simp only[AN,Bool.and_eq_true,decide_eq_true_eq]at a;exact a.1
theorem Ve (f:VG g) (h:wZ g nv c) (j:v<g.2.length) (b:p.2.2.map AB=HA R) (d:AN nv R=true) {i:Nat} (a:i<R.length):kL 1000 (p,g,gr,fV g) c (v:Int) (i:Int)=some (nz (pL (p,g,gr,fV g) c v (at' R (i:Int)).1)):=by
 have k:=FP b;have e:(at' p.2.2 (i:Int)).2.1.2=(at' R (i:Int)).1.ts:=congrArg Prod.fst (Ri b a);unfold kL;dsimp only;rw[cV (by omega),e];rw[bM (show gG 1000 _ c (v:Int) _=_ from On (S:=(p,g,gr,fV g)) Z f h j (Rq d a).1)];rfl
theorem Rs (z:VG g) (A:wZ g nv c) (C:v<g.2.length) (w:p.2.2.map AB=HA R) (s:AN nv R=true) (h:List (List (Int×Int))):eW 1000 (p,(p,g,gr,fV g),h) c (v:Int)=some (rC (p,g,gr,fV g) R c v):=by
 have E:=FP w;have y:=YV s;let l:=R.map λr=>pL (p,g,gr,fV g) c v r.1;have B:l.length=R.length:=by simp[l]
 have o:∀i,i<R.length->at' l (i:Int)=pL (p,g,gr,fV g) c v (at' R (i:Int)).1:=λi t=>by
  rw[nU (by omega),nU t];simp[l]
 have b:∀(k:Nat) a,k<R.length->kJ 1000 (p,(p,g,gr,fV g),h) c (v:Int) (k:Int) a=if nz (at' l (k:Int))=true then some (k:Int)else a (((k+1:Nat):Int)):=by
  intro k a d;unfold kJ;dsimp only;rw[if_pos (by omega),bM (show kL 1000 _ c (v:Int) (k:Int)=_ from Ve z A C w s d),o k d,eY (by omega)]
 unfold eW rC;by_cases f:∃i,i<R.length∧at' l (i:Int)≠0
 ·obtain⟨i,t,x⟩:=f;obtain⟨m,D,q,n⟩:=least (p:=λi=>at' l (i:Int)≠0) i x;have n:∀j,j<m->at' l (j:Int)=0:=λj u=>Decidable.not_not.1 (n j u);rw[show qB _=(m:Int)from zQ (l:=l) (by omega) q n];exact eB (K:=some (m:Int)) m (λk=>(k:Int)) (λk a d=>by rw[b k a (by omega),if_neg (by simp[nz,n k d])]) (λa=>by rw[b m a (by omega),if_pos (by simpa [nz]using q)]) 1000 (by omega)
 ·have f:∀j,j<l.length->at' l (j:Int)=0:=λj u=>Decidable.not_not.1 λe=>f ⟨j,by omega,e⟩;rw[show qB _=(-1:Int)from wS (l:=l) f];exact eB (K:=some (-1)) R.length (λk=>(k:Int)) (λk a d=>by rw[b k a d,if_neg (by simp[nz,f k (by omega)])]) (λa=>by
   unfold kJ nQ;dsimp only;rw[if_neg (by omega)]) 1000 (by omega)
theorem Jx (S:By) (R:List RL) (c:List (List Int)) (v:Nat):rC S R c v = -1∨∃i:Nat,rC S R c v=(i:Int)∧i<R.length∧pL S c v (at' R (i:Int)).1≠0:=by
 let l:=R.map λr=>pL S c v r.1;by_cases h:∃i,i<l.length∧at' l (i:Int)≠0
 ·obtain⟨i,n,k⟩:=h;obtain⟨m,o,f,a⟩:=least (p:=λi=>at' l (i:Int)≠0) i k;have a:∀j,j<m->at' l (j:Int)=0:=λj b=>Decidable.not_not.1 (a j b);have d:m<R.length:=by simp[l]at n;omega
  refine .inr ⟨m,zQ (l:=l) (by omega) f a,d,?_⟩;have:at' l (m:Int)=pL S c v (at' R (m:Int)).1:=by rw[nU (by simpa [l]using d),nU d];simp[l]
  rw[<-this];exact f
 ·exact .inl (wS (l:=l) λj b=>Decidable.not_not.1 λe=>h ⟨j,b,e⟩)
theorem Jy {S:By} {R:List RL} {c:List (List Int)} {v:Nat}:rC S R c v = -1↔∀i:Nat,i<R.length->pL S c v (at' R (i:Int)).1=0:=by
 let l:=R.map λr=>pL S c v r.1;have a:∀i,i<R.length->at' l (i:Int)=pL S c v (at' R (i:Int)).1:=λi b=>by rw[nU (by simpa [l]using b),nU b];simp[l]
 constructor
 ·intro h i b;refine Decidable.not_not.1 λe=> ?_;obtain⟨m,n,k,f⟩:=least (p:=λi=>at' l (i:Int)≠0) i (by rw[a i b];exact e);have f:∀j,j<m->at' l (j:Int)=0:=λj d=>Decidable.not_not.1 (f j d);have:rC S R c v=(m:Int):=zQ (l:=l) (by simp[l];omega) k f;omega
 ·intro h;exact wS (l:=l) λj d=>by rw[a j (by simpa [l]using d)];exact h j (by simpa [l]using d)
theorem Pg (hV:VG g) (hc:wZ g nv c) (hz:p.2.2.map AB=HA R) (hR:AN nv R=true) {tab:List (List (Int×Int))} (ht:tab.length=g.2.length):eI 1000 (p,(p,g,gr,fV g),tab) c=some ((enD (p,g,gr,fV g) R c:Nat):Int):=by
 have h24:=hV.n24;unfold eI Aw;let q:Nat->Bool:=λv=>decide (0<=rC (p,g,gr,fV g) R c v);have:=eB (step:=rM (tab.length:Int) (λy0=>kE 1000 y0 (p,(p,g,gr,fV g),tab) c)) (K:=some ((wU q g.2.length:Nat):Int)) g.2.length (λk=>(((wU q k:Nat):Int),(k:Int))) (λk ag hk=>by
  have hm:=LS q (k:=k) (by omega);unfold rM uK kE;dsimp only;rw[if_pos (by omega),bM (show Option.bind (eW 1000 _ c (k:Int)) _=some (q k) by rw[bM (show eW 1000 _ c (k:Int)=_ from Rs hV hc hk hz hR tab)]),eY (by omega)];cases hq:q k with
  |true=>
   rw[if_pos Z,cV (by omega),Lq hm (by omega)];simp only[wU,hq,if_true]
  |false=>
   rw[if_neg (by decide)];simp only[wU,hq];rfl) (λag=>by
  unfold rM zJ;dsimp only;rw[if_neg (by omega)]) 1000 (by omega)
 rw[bM (show bP _ 1000 ((0:Int),(0:Int))=_ from this)];rfl
end
theorem Ux (f:Nat) (k:Int) (b:eD) (x:Int):xQ f k b x=some (w_ k b x):=by
 unfold xQ uQ w_;by_cases a:b.1<=x
 ·by_cases c:x<=b.2
  ·simp only[a,c,and_self,if_true,decide_true]
  ·simp only[a,c,and_false,if_true,if_false,decide_false,Bool.false_eq_true];split
   ·rfl
   ·split<;>rfl
 ·simp only[a,false_and,if_false,Bool.false_eq_true];split
  ·rfl
  ·split<;>rfl
theorem N_ {S:By} {a:List Hi} {c:bW} {v:Nat} (l:List (Nat×E)) (b:aT):(l.foldl (GY S a c v) b).length=b.length:=by
 induction l generalizing b with
 |nil=>rfl
 |cons s l d=>rw[List.foldl_cons,d];simp[GY]
theorem SR {S:By} {a:List Hi} {R:List RL} {c:bW} {v:Nat} {i:Int}:(Aj S a R c v i).length=(at' c (v:Int)).length:=N_ _ _
section
variable {p:Gq} {g:GR} {gr:Int} {R:List RL} {c:List (List Int)} {v:Nat}
theorem YL (A:VG g) (J:zW g p.2.1) (o:wZ g p.2.1.length c) (x:v<g.2.length) (E:p.2.2.map AB=HA R) (H:AN p.2.1.length R=true) {i:Nat} (B:i<R.length):
  lG 1000 (p,(p,g,gr,fV g),CL g p.2.1) c (v:Int) (i:Int)=some (Aj (p,g,gr,fV g) p.2.1 R c v (i:Int)):=by
 have G:=A.n24;have I:=o.len;have l:=o.row v x;have N:=J.len;have O:=FP E;have r:=Ri E B;obtain⟨-,m,d⟩:=Rq H B;have D:(CL g p.2.1).length=g.2.length:=by simp[CL]
 have w:at' (CL g p.2.1) (v:Int)=Em g p.2.1 v:=xY _ x;have L:(Em g p.2.1 v).length=p.2.1.length:=by simp[Em]
 have y:(at' p.2.2 (i:Int)).2.2.2.map (λs=>(s.1,s.2.2))=(at' R (i:Int)).2.map λs=>((s.1:Int),s.2.ts):=congrArg Prod.snd r;have n:(at' p.2.2 (i:Int)).2.2.2.length=(at' R (i:Int)).2.length:=by simpa using congrArg List.length y
 unfold lG;dsimp only;rw[cV (by omega),cV (by simp;omega),cV (by omega),List.nil_append];unfold Aj;let a:=(at' R (i:Int)).2;have:=eB (step:=kI 1000 (p,(p,g,gr,fV g),CL g p.2.1) c (v:Int) (i:Int)) (K:=some (a.foldl (GY (p,g,gr,fV g) p.2.1 c v) (at' c (v:Int)))) a.length (λk=>((k:Int),(a.take k).foldl (GY (p,g,gr,fV g) p.2.1 c v) (at' c (v:Int)))) (λk F e=>by
  have j:k<(at' p.2.2 (i:Int)).2.2.2.length:=by rw[n];exact e
  have z:((at' (at' p.2.2 (i:Int)).2.2.2 (k:Int)).1,(at' (at' p.2.2 (i:Int)).2.2.2 (k:Int)).2.2)=(((at' a (k:Int)).1:Int),(at' a (k:Int)).2.ts):=by
   have:=congrArg (λq=>q[k]?) y;simp only[List.getElem?_map,List.getElem?_eq_getElem j,List.getElem?_eq_getElem (show k<(at' R (i:Int)).2.length from e),Option.map_some,Option.some.injEq]at this;rw[nU j,nU e];exact this
  have f:=congrArg Prod.fst z;have h:=congrArg Prod.snd z;dsimp only at f h;obtain⟨t,u⟩:=d (at' a (k:Int)) (by rw[nU e];exact List.getElem_mem e);have C:((a.take k).foldl (GY (p,g,gr,fV g) p.2.1 c v) (at' c (v:Int))).length=p.2.1.length:=by rw[N_,l]
  have b:at' (Em g p.2.1 v) ((at' a (k:Int)).1:Int)=tJ g p.2.1 v (at' a (k:Int)).1:=xY _ t;have M:a.length<=20:=m;unfold kI;dsimp only;rw[if_pos (by omega),cV (by omega),f,h,bM (show gG 1000 _ c (v:Int) _=_ from On (S:=(p,g,gr,fV g)) Z A o x u),cV (by omega),cV (by omega),w,cV (by omega),b,bM (Ux 1000 _ _ _),cV (by omega),eY (by omega),Int.toNat_natCast,Eh e,List.foldl_append];rfl) (λF=>by
  unfold kI nP;dsimp only;rw[if_neg (by show¬(a.length:Int)<_;rw[n];exact Int.lt_irrefl _),List.take_length]) 1000 (by show(at' R (i:Int)).2.length<1000;omega)
 exact this
theorem YZ (m:VG g) (s:zW g p.2.1) (l:wZ g p.2.1.length c) (u:p.2.2.map AB=HA R) (o:AN p.2.1.length R=true) {t:Nat} (b:t<4294967296) (B:∀v,t.testBit v=true->0<=rC (p,g,gr,fV g) R c v):
  jE 1000 (p,(p,g,gr,fV g),CL g p.2.1) c (t:Int)=some (zT (p,g,gr,fV g) p.2.1 R c t):=by
 have x:=m.n24;have z:=l.len;have C:=s.len;unfold jE;rw[bM (QI c (by omega) (λv D=>by rw[l.row v (by omega)];omega))];let f:Nat->List Int:=λv=>if t.testBit v=true then Aj (p,g,gr,fV g) p.2.1 R c v (rC (p,g,gr,fV g) R c v)else at' c (v:Int);let Q:Nat->List (List Int):=λk=>(List.range k).map f++c.drop k;have y:∀k,k<=c.length->(Q k).length=c.length:=λk a=>by simp[Q];omega
 have j:∀k,k<c.length->(Q k).set k (f k)=Q (k+1):=λk a=>by
  show((List.range k).map f++c.drop k).set k (f k)=(List.range (k+1)).map f++c.drop (k+1);rw[List.set_append_right _ _ (by simp),List.length_map,List.length_range,Nat.sub_self,List.drop_eq_getElem_cons a,List.set_cons_zero,List.range_succ,List.map_append,List.map_singleton,List.append_assoc];rfl
 have d:∀k,k<c.length->f k=at' c (k:Int)->Q k=Q (k+1):=λk a A=>by
  show(List.range k).map f++c.drop k=(List.range (k+1)).map f++c.drop (k+1);rw[List.range_succ,List.drop_eq_getElem_cons a,List.map_append,List.map_singleton,A,nU a];simp
 rw[show c=Q 0 by simp[Q]];refine eB (step:=iJ 1000 (p,(p,g,gr,fV g),CL g p.2.1) (Q 0) (t:Int)) (K:=some (zT (p,g,gr,fV g) p.2.1 R (Q 0) t)) c.length (λk=>((k:Int),Q k)) (λk w a=> ?_) (λw=> ?_) 1000 (by omega)
 ·rw[show Q 0=c by simp[Q]];unfold iJ kK;dsimp only;rw[if_pos (by omega),cV (by omega),eY (by omega)];by_cases h:t.testBit k=true
  ·obtain⟨i,r,n,_⟩:=(Jx (p,g,gr,fV g) R c k).resolve_left (λe=>by have:=B k h;omega);rw[if_pos ((Vf (by omega) b).2 h),bM (show eW 1000 _ c (k:Int)=_ from Rs m l (by omega) u o _),r,bM (show lG 1000 _ c (k:Int) (i:Int)=_ from YL m s l (by omega) u o n),cV (by rw[y k (by omega)];omega),Int.toNat_natCast];have:Aj (p,g,gr,fV g) p.2.1 R c k (i:Int)=f k:=by simp only[f];rw[if_pos h,r]
   rw[this,j k a]
  ·rw[if_neg (λq=>h ((Vf (by omega) b).1 q)),d k a (by simp only[f];rw[if_neg h])]
 ·rw[show Q 0=c by simp[Q]];unfold iJ nR;dsimp only;rw[if_neg (by omega)];simp[Q,zT,f]
theorem KN {S:By} {a:List Hi} {t:Nat}:(zT S a R c t).length=c.length:=by simp[zT]
theorem FX {S:By} {a:List Hi} {t:Nat} (b:v<c.length):at' (zT S a R c t) (v:Int)=if t.testBit v=true then Aj S a R c v (rC S R c v)else at' c (v:Int):=xY _ b
theorem wZ.step {S:By} {a:List Hi} {t:Nat} {e:Nat} {g:GR} (b:wZ g e c):wZ g e (zT S a R c t):=⟨by rw[KN,b.len],λv d=>by
 rw[FX (by rw[b.len];exact d)];split
 ·rw[SR,b.row v d]
 ·exact b.row v d⟩
end
end Go.Proofs.YtjkjpdonlpdcaaaGreatDoor
namespace Go.Proofs.YtjkjpdonlpdcaaaGreatDoor
open Go.Sx
def qJ (U:Nat) (a:Int):Option (Int):=
 ck (0<=(24:Int)) (ck (0<=(vN .u32 a (24:Int))∧(vN .u32 a (24:Int))<(List.length WJ:Int)) (ck (0<=(16:Int)) (ck (0<=(eO .u32 (vN .u32 a (16:Int)) (255:Int))∧(eO .u32 (vN .u32 a (16:Int)) (255:Int))<(List.length WJ:Int)) (ck (0<=(8:Int)) (ck (0<=(eO .u32 (vN .u32 a (8:Int)) (255:Int))∧(eO .u32 (vN .u32 a (8:Int)) (255:Int))<(List.length WJ:Int)) (ck (0<=(eO .u32 a (255:Int))∧(eO .u32 a (255:Int))<(List.length WJ:Int)) (some (wI .i64 (wI .u8 ((wI .u8 ((wI .u8 ((at' WJ (vN .u32 a (24:Int)))+(at' WJ (eO .u32 (vN .u32 a (16:Int)) (255:Int)))))+(at' WJ (eO .u32 (vN .u32 a (8:Int)) (255:Int)))))+(at' WJ (eO .u32 a (255:Int)))))))))))))
theorem Xv:aQ Tryz.prog 140:=Tryz.call140
theorem Fe (U:Nat) {a:Int} (r:Int) (h:qJ U a=some r):
  bA Tryz.prog 140 #[vU (a)] [] (λx:Unit=>vI (r)) (λx l=>l) (λ_ l=>l):=by
 refine bA.of Tryz.func140 Z Tryz.ntmps140 Z λc=>?_;refine aS<|aC Z<|aK<|aI ?_;refine JR.start [0,1,3,0,8,24,56,127,0,256,768,1792,4095,0,8192,24576,65535,131071,262143] 16 mixedOrders (by decide +kernel) ?_;refine JR.open (by exact rfl) ?_;refine bE Z<|dK h λb h=>fY Z (Km Z Z b)<|dK h λd h=>fY Z (Cn Z Z Z Lt d)<|bE Z<|dK h λe h=>fY Z (Km Z Z e)<|fY Z (Qe Z Z)<|dK h λf h=>fY Z (Cn Z Z Z Lt f)<|fY Z (zX Z Z)<|bE Z<|dK h λg h=>fY Z (Km Z Z g)<|fY Z (Qe Z Z)<|dK h λi h=>fY Z (Cn Z Z Z Lt i)<|fY Z (zX Z Z)<|bE Z<|fY Z (Qe Z Z)<|dK h λj h=>fY Z (Cn Z Z Z Lt j)<|bK 16 Z Z<|cO Z<|aB (OV Z Z Z) Z<|aC Z<|aK<|aP ?_;cases h;exact kM Z
def oY  (a:Unit):Option (Bool):=
 some (true)
def oZ (c:aT) (a:Int) (b:(Int)->Option (Bool)):Option (Bool):=
 if a<(List.length c:Int)then(ck (0<=a∧a<(List.length c:Int)) (if(Aq .u32 (at' c a) (16777215:Int))≠(0:Int)then(some (false))else(b (wI .i64 (a+(1:Int))))))else(oY  (()))
def kT (U:Nat) (a:aT):Option (Bool):=
 bP (oZ a) U (0:Int)
theorem Qz:aQ Tryz.prog 226:=Tryz.call226
theorem AS (U:Nat) {d:aT} (e:Value) (r:Bool) (h:kT U d=some r):
  bA Tryz.prog 226 #[e] [Sl Ci e d] (λx:Unit=>vB (r)) (λx l=>l) (λ_ l=>l):=by
 refine bA.of Tryz.func226 Z Tryz.ntmps226 Z λc=>?_;unfold kT at h;refine aS<|aC Z<|aK<|aI<|d_ (λa=>oY  a=some r) (λa f=>[]) (λa f=>[]) ?_ ?_
 ·refine aS<|aA Z<|iH (aE.fact 0 Z) Z<|aA Z<|aK<|aU<|eH (oZ d) (λb g=>[(5,e),(6,vI (List.length d:Int)),(7,vI (b))]) (λb g=>[]) (0:Int) () h SF (aY.refl _) ?_;intro j b g h;refine aS<|cP Z<|aK<|aI ?_;refine eZ h Z (λh=>?_) λh=>?_
  ·refine cE<|aI<|aU<|aS<|dK h λi h=>aB (aZ Z Z (aE.fact 0 Z) Z Z i) Z<|aB (bU Z (aE.fact 0 Z) Z Z Z Gr i) Z<|aC Z<|aK<|aS<|aA Z<|aB (IC Z Z) Z<|oT Z<|aK ?_;refine eZ h Z (λh=>?_) λh=>?_
   ·refine aS<|aC Z<|aK<|aP<|bO<|aH<|aH<|bO<|aH ?_;cases h;exact kM Z
   refine dJ<|mP<|aR<|cO Z<|aA Z<|aK ?_;exact Ai (wI .i64 (b+(1:Int))) () h SF Z
  refine fE ?_;exact iI () (()) h SF Z
 intro a f h;unfold oY at h;refine aS<|aC Z<|aK<|aP ?_;cases h;exact kM Z
def mD  (a:Bool):Option (Bool):=
 some (a)
def jC (U:Nat) (a:EH) (c:Bool):Option (Bool):=
 if c=true then(some (false))else(if(wI .i64 (a.2.2.1+(1:Int)))<a.2.2.2.1 then(some (false))else(if a.1<=a.2.1 then(if a.2.1<=(wI .i64 ((24:Int)*a.1))then(Option.bind (kT U ([a.2.2.2.2])) λb=>(mD  (b)))else(mD  (false)))else(mD  (false))))
def qX (U:Nat) (a:EH):Option (Bool):=
 if a.1<(0:Int)then(jC U a (true))else(if(4096:Int)<a.1 then(jC U a (true))else(if a.2.2.1<(0:Int)then(jC U a (true))else(if a.2.2.2.1<a.2.2.1 then(jC U a (true))else(jC U a (decide (a.1<a.2.2.2.1))))))
theorem XN:aQ Tryz.prog 225:=Tryz.call225
theorem HF (U:Nat) {a:EH} (r:Bool) (h:qX U a=some r):
  bA Tryz.prog 225 #[Value.agg #[vI (a.1),vI (a.2.1),vI (a.2.2.1),vI (a.2.2.2.1),vU (a.2.2.2.2)]] [] (λx:Unit=>vB (r)) (λx l=>l) (λ_ l=>l):=by
 refine bA.of Tryz.func225 Z Tryz.ntmps225 Z λc=>?_;refine aS<|aG (aJ.box (cs:=[vI (a.1),vI (a.2.1),vI (a.2.2.1),vI (a.2.2.2.1),vU (a.2.2.2.2)]) Z Z) Z λj=>aC Z<|aK<|aI<|aI<|d_ (λb=>jC U a b=some r) (λb k=>[(1,vP j),(29,vB (b))]) (λb k=>[bH j [vI (a.1),vI (a.2.1),vI (a.2.2.1),vI (a.2.2.2.1),vU (a.2.2.2.2)] 33]) ?_ ?_
 ·refine aR<|bX Z<|cJ 0 Z<|cP Z<|aA Z ?_;refine Cd h Z (λ_ h=>?_) λ_ h=>?_
  ·refine aL Z<|aL Z<|aL Z<|dU Z<|aA Z<|aL Z<|aL Z<|aL Z<|dU Z<|aA Z<|aL Z<|aL Z<|aL Z<|aL Z<|aL Z<|dU Z<|aA Z<|aL Z<|aL Z<|aL Z<|aL Z<|aL Z<|dU Z<|aK ?_;exact iI (true) () h SF Z
  refine aV Z (dR Z Z Z Z Z) Z<|aV Z (cK 0 Z Z Z Z Z) Z<|aV Z (Ah Z Z) Z<|e_ Z<|aA Z ?_;refine Cd h Z (λ_ h=>?_) λ_ h=>?_
  ·refine aL Z<|aL Z<|aL Z<|dU Z<|aA Z<|aL Z<|aL Z<|aL Z<|aL Z<|aL Z<|dU Z<|aA Z<|aL Z<|aL Z<|aL Z<|aL Z<|aL Z<|dU Z<|aK ?_;exact iI (true) () h SF Z
  refine aV Z (dR Z Z Z Z Z) Z<|aV Z (cK 0 Z Z Z Z Z) Z<|aV Z (Hj Z Z) Z<|e_ Z<|aA Z ?_;refine Cd h Z (λ_ h=>?_) λ_ h=>?_
  ·refine aL Z<|aL Z<|aL Z<|aL Z<|aL Z<|dU Z<|aA Z<|aL Z<|aL Z<|aL Z<|aL Z<|aL Z<|dU Z<|aK ?_;exact iI (true) () h SF Z
  refine aV Z (dR Z Z Z Z Z) Z<|aV Z (cK 0 Z Z Z Z Z) Z<|aV Z (dR Z Z Z Z Z) Z<|aV Z (cK 0 Z Z Z Z Z) Z<|aV Z (Ah Z Z) Z<|e_ Z<|aA Z ?_;refine Cd h Z (λ_ h=>?_) λ_ h=>?_
  ·refine aL Z<|aL Z<|aL Z<|aL Z<|aL Z<|dU Z<|aK ?_;exact iI (true) () h SF Z
  refine aV Z (dR Z Z Z Z Z) Z<|aV Z (cK 0 Z Z Z Z Z) Z<|aV Z (dR Z Z Z Z Z) Z<|aV Z (cK 0 Z Z Z Z Z) Z<|aV Z (Ah Z Z) Z<|e_ Z<|aK ?_;exact iI (decide (a.1<a.2.2.2.1)) () h SF Z
 intro b k h;refine yC h Z (λ_ h=>?_) λ_ h=>?_
 ·refine aS<|aC Z<|aK<|aP<|aH ?_;cases h;exact sV Z
 refine cE<|aI<|aS<|bX Z<|cJ 0 Z<|bX Z<|cJ 0 Z<|cO Z<|aB (Ah Z Z) Z<|aK ?_;refine eZ h Z (λh=>?_) λh=>?_
 ·refine aS<|aC Z<|aK<|aP<|aH ?_;cases h;exact sV Z
 refine cE<|aI<|d_ (λd=>mD  d=some r) (λd m=>[(2,vB (d))]) (λd m=>[]) ?_ ?_
 ·refine aR<|bX Z<|cJ 0 Z<|bX Z<|cJ 0 Z<|aB (BO Z Z) Z<|aA Z ?_;refine Cd h Z (λ_ h=>?_) λ_ h=>?_
  ·refine aV Z (dR Z Z Z Z Z) Z<|aV Z (cK 0 Z Z Z Z Z) Z<|aV Z (dR Z Z Z Z Z) Z<|aV Z (cK 0 Z Z Z Z Z) Z<|aV Z (tQ Z Z) Z<|aV Z (BO Z Z) Z<|dU Z<|aA Z ?_;refine Cd h Z (λ_ h=>?_) λ_ h=>?_
   ·refine aV Z (dR Z Z Z Z Z) Z<|aV Z (cK 0 Z Z Z Z Z) Z<|rQ Z (cW (e:=kF) ([a.2.2.2.2]) [(0,vU (a.2.2.2.2))] Z Z Z Z (pP (vU (a.2.2.2.2)) Z) Z Z Z) Z λg=>eL h λf i h=>rQ Z (aJ.callQ Qz (AS U g f i) Z (aD.cons (aX (aE.res 0 Z) lX) .nil)) Z λn=>dU Z<|aC Z<|aK ?_;exact bT (f) () h SF .nil (aD.refl _ _)
   refine aL Z<|aL Z<|aL Z<|aL Z<|e_ Z<|aC Z<|aK ?_;exact bT (false) () h SF .nil (aD.refl _ _)
  refine aL Z<|aL Z<|aL Z<|aL Z<|aL Z<|aL Z<|e_ Z<|aA Z<|aL Z<|aL Z<|aL Z<|aL Z<|e_ Z<|aC Z<|aK ?_;exact bT (false) () h SF .nil (aD.refl _ _)
 intro d m h;unfold mD at h;refine aP ?_;cases h;exact kM Z
def sI (b:EH) (c:Int) (a:eD):Option ((Int×Int×Int×Int×Int)×Int):=
 some ((((wI .i64 (b.1+(1:Int))),(wI .i64 (b.2.1+c)),a.1,(wI .i64 (b.2.2.1+(1:Int))),a.2)),(0:Int))
def sH (U:Nat) (a:EH) (c:Int) (d:Int) (e:Bool):Option ((Int×Int×Int×Int×Int)×Int):=
 if e=true then(some ((((0:Int),(0:Int),(0:Int),(0:Int),(0:Int))),(11:Int)))else(if a.1=(4096:Int)then(some ((((0:Int),(0:Int),(0:Int),(0:Int),(0:Int))),(3:Int)))else(Option.bind (qJ U c) λb=>(if(eO .u32 (Aq .u32 a.2.2.2.2 c) d)=(0:Int)then(sI a b ((wI .i64 (a.2.2.1+(1:Int))),d))else(sI a b (a.2.2.1,(eO .u32 (Aq .u32 a.2.2.2.2 c) d))))))
def rJ (U:Nat) (a:EH) (b:Int) (c:Int):Option ((Int×Int×Int×Int×Int)×Int):=
 Option.bind (qX U ((a.1,a.2.1,a.2.2.1,a.2.2.2.1,a.2.2.2.2))) λe=>(if(!e)=true then(some ((((0:Int),(0:Int),(0:Int),(0:Int),(0:Int))),(7:Int)))else(if b=(0:Int)then(sH U a b c (true))else(Option.bind (kT U ([b,c])) λd=>(sH U a b c ((!d))))))
theorem XC:aQ Tryz.prog 169:=Tryz.call169
theorem JX (U:Nat) {a:EH} {g:Int} {d:Int} (r:(Int×Int×Int×Int×Int)×Int) (h:rJ U a g d=some r):
  bA Tryz.prog 169 #[Value.agg #[vI (a.1),vI (a.2.1),vI (a.2.2.1),vI (a.2.2.2.1),vU (a.2.2.2.2)],vU (g),vU (d)] [] (λx:Unit=>Value.tuple #[Value.agg #[vI (r.1.1),vI (r.1.2.1),vI (r.1.2.2.1),vI (r.1.2.2.2.1),vU (r.1.2.2.2.2)],vI (r.2)]) (λx l=>l) (λ_ l=>l):=by
 refine bA.of Tryz.func169 Z Tryz.ntmps169 Z λc=>?_;refine aS<|aG (aJ.box (cs:=[vI (a.1),vI (a.2.1),vI (a.2.2.1),vI (a.2.2.2.1),vU (a.2.2.2.2)]) Z Z) Z λm=>aG (aJ.alloc (cs:=ZC) Z Z) Z λn=>aC Z<|aK<|aI<|aS<|dM 1 Z<|eL h λu v h=>aG (aJ.callQ XN (HF U  u v) Z .nil) Z λz=>aB (iZ Z) Z<|aK ?_;refine yC h Z (λ_ h=>?_) λ_ h=>?_
 ·refine aS ?_;refine aB (ID (r:=Value.agg #[vI (0:Int),vI (0:Int),vI (0:Int),vI (0:Int),vU (0:Int)]) (by intro w;simp[Instr.build,Instr.fill,eP,dV,dH,eQ,eR,dW,fS])) Z ?_;refine bR 0 (vs:=ZC) Z Z Z Z Z Z<|aC Z<|aK<|aP<|aH ?_;cases h;exact gZ () Z Z (RV.cell 0 Z Z Z Z) (RV.tmp Z) .nil aD.nil
 refine cE<|aI<|aI<|d_ (λi=>sH U a g d i=some r) (λi t=>[(1,vU (g)),(2,vU (d)),(3,vP m),(6,vP n),(20,vB (i))]) (λi t=>[bH n ZC 33,bH m [vI (a.1),vI (a.2.1),vI (a.2.2.1),vI (a.2.2.2.1),vU (a.2.2.2.2)] 33]) ?_ ?_
 ·refine aR<|aA Z<|cC Z<|aA Z ?_;refine Cd h Z (λ_ h=>?_) λ_ h=>?_
  ·refine aL Z<|aL Z<|aL Z<|aL Z<|aL Z<|dU Z<|aK ?_;exact iI (true) () h SF Z
  refine eS Z<|eS Z<|rQ Z (cW (e:=kF) ([g,d]) [(0,vU (g)),(1,vU (d))] Z Z Z Z (UV (vU (g)) (vU (d)) Z Z) Z Z Z) Z λo=>eL h λk q h=>rQ Z (aJ.callQ Qz (AS U o k q) Z (aD.cons (aX (aE.res 0 Z) lX) .nil)) Z λy=>aV Z (iZ Z) Z<|e_ Z<|aK ?_;exact bT ((!k)) () h SF (aY.ix [1,2] Z Z) (aD.refl _ _)
 intro i t h;refine yC h Z (λ_ h=>?_) λ_ h=>?_
 ·refine aS ?_;refine aB (ID (r:=Value.agg #[vI (0:Int),vI (0:Int),vI (0:Int),vI (0:Int),vU (0:Int)]) (by intro w;simp[Instr.build,Instr.fill,eP,dV,dH,eQ,eR,dW,fS])) Z ?_;refine bR 0 (vs:=ZC) Z Z Z Z Z Z<|aC Z<|aK<|aP<|aH ?_;cases h;exact gZ () Z Z (RV.cell 0 Z Z Z Z) (RV.tmp Z) .nil aD.nil
 refine cE<|aI<|aS<|bX Z<|cJ 1 Z<|cC Z<|aK ?_;refine eZ h Z (λh=>?_) λh=>?_
 ·refine aS ?_;refine aB (ID (r:=Value.agg #[vI (0:Int),vI (0:Int),vI (0:Int),vI (0:Int),vU (0:Int)]) (by intro w;simp[Instr.build,Instr.fill,eP,dV,dH,eQ,eR,dW,fS])) Z ?_;refine bR 0 (vs:=ZC) Z Z Z Z Z Z<|aC Z<|aK<|aP<|aH ?_;cases h;exact gZ () Z Z (RV.cell 0 Z Z Z Z) (RV.tmp Z) .nil aD.nil
 refine cE<|aS<|bX Z<|cJ 1 Z<|cO Z<|bX Z<|gR 1 Z Z Z Z Z Z<|aK<|aI ?_;refine JR.start [0,1,0,4,15,31,63] 4 mixedOrders (by decide +kernel) ?_;refine JR.open (by exact rfl) ?_;refine cN Z<|dY 1 Z<|bE Z<|eL h λf p h=>JR.loud Z Z Z (aJ.callQ Xv (Fe U  f p) Z .nil) Z (λs=>(jV [([1],[])] Z)) λs=>bK 4 Z Z<|cO Z<|bX Z<|gR 1 Z Z Z Z Z Z<|aK<|aS<|bX Z<|cJ 1 Z<|cO Z<|bX Z<|gR 1 Z Z Z Z Z Z<|aK<|aS<|bX Z<|cJ 1 Z<|aA Z<|aB (IC Z Z) Z<|aA Z<|Ak Z<|bX Z<|gR 1 Z Z Z Z Z Z<|aK<|aI<|d_ (λb=>sI a f b=some r) (λb j=>[(3,vP m),(6,vP n)]) (λb j=>[bH n ZC 33,bH m [vI (wI .i64 (a.1+(1:Int))),vI (wI .i64 (a.2.1+f)),vI (b.1),vI (wI .i64 (a.2.2.1+(1:Int))),vU (b.2)] 33]) ?_ ?_
 ·refine aS<|bX Z<|cJ 1 Z<|cC Z<|aK ?_;refine eZ h Z (λh=>?_) λh=>?_
  ·refine aS<|bX Z<|cJ 1 Z<|bX Z<|gR 1 Z Z Z Z Z Z<|aK<|aR<|aA Z<|bX Z<|gR 1 Z Z Z Z Z Z<|aK ?_;exact iI ((wI .i64 (a.2.2.1+(1:Int))),d) () h SF Z
  refine cE ?_;exact iI (a.2.2.1,(eO .u32 (Aq .u32 a.2.2.2.2 g) d)) () h SF Z
 intro b j h;unfold sI at h;refine aS<|dM 1 Z<|bR 0 (vs:=[vI (wI .i64 (a.1+(1:Int))),vI (wI .i64 (a.2.1+f)),vI (b.1),vI (wI .i64 (a.2.2.1+(1:Int))),vU (b.2)]) Z Z Z Z Z Z<|aC Z<|aK<|aP ?_;cases h;exact gZ () Z Z (RV.cell 0 Z Z Z Z) (RV.tmp Z) .nil aD.nil
end Go.Proofs.YtjkjpdonlpdcaaaGreatDoor
namespace Go.Proofs.YtjkjpdonlpdcaaaGreatDoor
open Go Go.Sx
abbrev CT:=EH
theorem EB (l:aT) (h:l.length<=900):∃b,kT 1000 l=some b:=by
 unfold kT;have:=xF (step:=oZ l) (Q:=λ_:Bool=>True) (λi:Int=>∃k:Nat,i=(k:Int)∧k<=l.length) (λi=>l.length - i.toNat) (λi f c a=>by
  obtain⟨k,rfl,g⟩:=c;unfold oZ oY;by_cases e:k<l.length
  ·rw[if_pos (by omega),cV (by omega)];split
   ·exact⟨_,rfl,trivial⟩
   ·rw[eY (by omega)];exact a _ ⟨k+1,rfl,by omega⟩ (by omega)
  ·rw[if_neg (by omega)];exact⟨_,rfl,trivial⟩) 1000 0 ⟨0,rfl,by omega⟩ (by omega)
 obtain⟨b,d,_⟩:=this;exact⟨b,d⟩
theorem Ll (k:CT):∃b,qX 1000 k=some b:=by
 obtain⟨q,d⟩:=EB [k.2.2.2.2] (by simp);have c:∀a,∃b,jC 1000 k a=some b:=by
  intro a;unfold jC mD;split
  ·exact⟨_,rfl⟩
  ·split
   ·exact⟨_,rfl⟩
   ·split
    ·split
     ·rw[bM d];exact⟨_,rfl⟩
     ·exact⟨_,rfl⟩
    ·exact⟨_,rfl⟩
 unfold qX
 repeat' split
 all_goals exact c _
theorem SX {t:Nat} (i:t<4294967296):∃n,qJ 1000 (t:Int)=some n:=by
 have g:(List.length WJ:Int)=256:=by decide +kernel
 have b:∀a:Nat,a<4294967296->0<=eO .u32 (a:Int) 255∧eO .u32 (a:Int) 255<256:=λa f=>by
  rw[show(255:Int)=((255:Nat):Int)from rfl,II f (by omega)];have:a &&& 255<=255:=Nat.and_le_right;omega
 have c:∀k:Nat,k<32->vN .u32 (t:Int) (k:Int)=((t / 2^k:Nat):Int):=λk h=>Qk h;have e:vN .u32 (t:Int) 24=((t / 2^24:Nat):Int):=c 24 (by omega);have d:vN .u32 (t:Int) 16=((t / 2^16:Nat):Int):=c 16 (by omega);have j:vN .u32 (t:Int) 8=((t / 2^8:Nat):Int):=c 8 (by omega);unfold qJ;rw[g,e,d,j,cV (by decide),cV (by omega),cV (by decide),cV (b _ (by omega)),cV (by decide),cV (b _ (by omega)),cV (b _ i)];exact⟨_,rfl⟩
theorem Ue (k:CT) {t:Nat} (h:t<4294967296) (e:Int):∃r,rJ 1000 k (t:Int) e=some r:=by
 obtain⟨b,d⟩:=Ll k;obtain⟨q,g⟩:=EB [(t:Int),e] (by simp);obtain⟨n,f⟩:=SX h;have c:∀a,∃r,sH 1000 k (t:Int) e a=some r:=by
  intro a;unfold sH sI;split
  ·exact⟨_,rfl⟩
  ·split
   ·exact⟨_,rfl⟩
   ·rw[bM f];split<;>exact⟨_,rfl⟩
 unfold rJ;rw[bM (show qX 1000 _=some b from d)];split
 ·exact⟨_,rfl⟩
 ·split
  ·exact c _
  ·rw[bM g];exact c _
def cT (p:Gq) (g:GR):By:=(p,g,fO g g.2.length,fV g)
def Ev (S:By) (R:List RL) (a:Nat) (c:bW):Nat:=enD S R c &&& a
theorem Ye (S:By) (R:List RL) (c:bW) (v:Nat):(enD S R c).testBit v=(decide (v<S.2.1.2.length)&&decide (0<=rC S R c v)):=Ea _ v _
theorem HY (S:By) (R:List RL) (a:Nat) (c:bW) (v:Nat):(Ev S R a c).testBit v=true↔v<S.2.1.2.length∧0<=rC S R c v∧a.testBit v=true:=by
 unfold Ev;rw[Nat.testBit_and,Ye,Bool.and_eq_true,Bool.and_eq_true,decide_eq_true_eq,decide_eq_true_eq,and_assoc]
theorem aax {S:By} (a:VG S.2.1) (R:List RL) (c:bW):enD S R c<4294967296:=LS _ (by have:=a.n24;omega)
theorem aay (S:By) (R:List RL) (a:Nat) (c:bW):WG S.2.1 (Ev S R a c):=λi b=>((HY S R a c i).1 b).1
def Nu (a:pY):aT:=a.map λt=>((t:Nat):Int)
end Go.Proofs.YtjkjpdonlpdcaaaGreatDoor
namespace Go.Proofs.YtjkjpdonlpdcaaaGreatDoor
open Go.Sx
def vK  (a:aT):Option aT:=
 some (a)
def rE (c:aT×Int) (b:(aT×Int)->Option aT) (a:aT):Option aT:=
 b (a,(wI .i64 (c.2+(1:Int))))
def oB (b:aT) (d:Int) (a:aT×Int) (c:(aT×Int)->Option aT):Option aT:=
 if a.2<d then(if(List.length b:Int)=(0:Int)then(ck ((List.length a.1:Int)+(List.length ([(4294967295:Int)]):Int)<=1099511627) (rE a c (a.1++([(4294967295:Int)]))))else(ck ((List.length b:Int)≠0) (ck (0<=(Int.tmod a.2 (List.length b:Int))∧(Int.tmod a.2 (List.length b:Int))<(List.length b:Int)) (ck ((List.length b:Int)≠0) (ck ((24:Int)≠0) (ck (0<=(wI .u64 (Int.tmod (wI .i64 (Int.tdiv a.2 (List.length b:Int))) (24:Int)))) (ck (0<=(wI .u64 ((24:Int) - (wI .u64 (Int.tmod (wI .i64 (Int.tdiv a.2 (List.length b:Int))) (24:Int)))))) (ck ((List.length a.1:Int)+(List.length ([(eO .u32 (JS .u32 (BB .u32 (eO .u32 (at' b (Int.tmod a.2 (List.length b:Int))) (16777215:Int)) (wI .u64 (Int.tmod (wI .i64 (Int.tdiv a.2 (List.length b:Int))) (24:Int)))) (vN .u32 (eO .u32 (at' b (Int.tmod a.2 (List.length b:Int))) (16777215:Int)) (wI .u64 ((24:Int) - (wI .u64 (Int.tmod (wI .i64 (Int.tdiv a.2 (List.length b:Int))) (24:Int))))))) (16777215:Int))]):Int)<=1099511627) (rE a c (a.1++([(eO .u32 (JS .u32 (BB .u32 (eO .u32 (at' b (Int.tmod a.2 (List.length b:Int))) (16777215:Int)) (wI .u64 (Int.tmod (wI .i64 (Int.tdiv a.2 (List.length b:Int))) (24:Int)))) (vN .u32 (eO .u32 (at' b (Int.tmod a.2 (List.length b:Int))) (16777215:Int)) (wI .u64 ((24:Int) - (wI .u64 (Int.tmod (wI .i64 (Int.tdiv a.2 (List.length b:Int))) (24:Int))))))) (16777215:Int))])))))))))))else(vK  (a.1))
def pW (U:Nat) (a:aT) (b:Int):Option aT:=
 bP (oB a b) U (([]:aT),(0:Int))
theorem ES:aQ Tryz.prog 11:=Tryz.call11
theorem nJ (U:Nat) {a:aT} {i:Int} (n:Value) (r:aT) (h:pW U a i=some r):
  bA Tryz.prog 11 #[n,vI (i)] [Sl Ci n a] (λx:Value=>x) (λx l=>Ar kF x r::l) (λ_ l=>l):=by
 refine bA.of Tryz.func11 Z Tryz.ntmps11 Z λc=>?_;unfold pW at h;refine aS<|aC Z<|aK<|aS<|aC Z<|aK<|aI<|Cz (B:=Value) (λj=>vK  j=some r) (λj k=>[(5,k)]) (λj k=>[Ar kF k j]) ?_ ?_
 ·refine aS<|aC Z<|aK<|aU<|jY (f_ kF)<|eH (B:=Value) (oB a i) (λb f=>[(0,n),(1,vI (i)),(5,f),(6,vI (b.2))]) (λb f=>[Ar kF f b.1]) (([]:aT),(0:Int)) (lS) h SF (aY.refl _) ?_;intro w b f h;refine aI<|aS<|aA Z<|aA Z<|cP Z<|aK ?_;refine eZ h Z (λh=>?_) λh=>?_
  ·refine cE<|aI<|Cz (B:=Value) (λd=>rE b (bP (oB a i) w) d=some r) (λd g=>[(0,n),(1,vI (i)),(5,g),(6,vI (b.2))]) (λd g=>[Ar kF g d]) ?_ ?_
   ·refine aU<|aI<|aS<|aA Z<|iH (aE.fact 0 Z) Z<|cC Z<|aK ?_;refine eZ h Z (λh=>?_) λh=>?_
    ·refine aS<|aA Z<|aG (cW (e:=kF) ([(4294967295:Int)]) [(0,vU (4294967295:Int))] Z Z Z Z (pP (vU (4294967295:Int)) Z) Z Z Z) Z λC=>dK h λo h=>aG (g_ 1 lX Z Z Z (aX (aE.res 0 Z) lX) Z Z Z Z o Z) Z λy=>aC Z<|aK<|yJ<|iQ<|BK<|Bc ?_;exact bT (b.1++([(4294967295:Int)])) (y) h SF (aY.ix [1] Z Z) (aD.refl _ _)
    refine cE<|aI ?_;refine JR.start [0,0,0,4,14,31,63,0,0,256,896,1920,3968,127,16383] 14 mixedOrders (by decide +kernel) ?_;refine JR.open (by exact rfl) ?_;refine bE Z<|bE Z<|bE Z<|bI Z .nil (h_ 0 Z) (fG Z (aE.fact 0 Z) Z) aN.z<|dK h λp h=>fY Z (Nf Z Z p)<|dK h λm h=>bI Z .nil (h_ 0 Z) (aZ Z Z (aE.fact 0 Z) Z Z m) aN.z<|bI Z .nil (h_ 0 Z) (bU Z (aE.fact 0 Z) Z Z Z Gr m) aN.z<|bE Z<|bE Z<|bI Z .nil (h_ 0 Z) (fG Z (aE.fact 0 Z) Z) aN.z<|dK h λq h=>fY Z (Ud Z Z q)<|dK h λs h=>fY Z (Nf Z Z s)<|fY Z (OV Z Z Z)<|fY Z (tY Z)<|bK 14 Z Z<|aC Z<|aK<|aS<|aA Z<|Ak Z<|aC Z<|aK<|aR<|aA Z<|aA Z<|aA Z<|dK h λt h=>aB (Kl Z Z t) Z<|aA Z<|aA Z<|aB (mJ Z Z) Z<|dK h λu h=>aB (Km Z Z u) Z<|aB (Uc Z Z) Z<|Ak Z<|aG (cW (e:=kF) ([(eO .u32 (JS .u32 (BB .u32 (eO .u32 (at' a (Int.tmod b.2 (List.length a:Int))) (16777215:Int)) (wI .u64 (Int.tmod (wI .i64 (Int.tdiv b.2 (List.length a:Int))) (24:Int)))) (vN .u32 (eO .u32 (at' a (Int.tmod b.2 (List.length a:Int))) (16777215:Int)) (wI .u64 ((24:Int) - (wI .u64 (Int.tmod (wI .i64 (Int.tdiv b.2 (List.length a:Int))) (24:Int))))))) (16777215:Int))]) [(0,vU (eO .u32 (JS .u32 (BB .u32 (eO .u32 (at' a (Int.tmod b.2 (List.length a:Int))) (16777215:Int)) (wI .u64 (Int.tmod (wI .i64 (Int.tdiv b.2 (List.length a:Int))) (24:Int)))) (vN .u32 (eO .u32 (at' a (Int.tmod b.2 (List.length a:Int))) (16777215:Int)) (wI .u64 ((24:Int) - (wI .u64 (Int.tmod (wI .i64 (Int.tdiv b.2 (List.length a:Int))) (24:Int))))))) (16777215:Int)))] Z Z Z Z (pP (vU (eO .u32 (JS .u32 (BB .u32 (eO .u32 (at' a (Int.tmod b.2 (List.length a:Int))) (16777215:Int)) (wI .u64 (Int.tmod (wI .i64 (Int.tdiv b.2 (List.length a:Int))) (24:Int)))) (vN .u32 (eO .u32 (at' a (Int.tmod b.2 (List.length a:Int))) (16777215:Int)) (wI .u64 ((24:Int) - (wI .u64 (Int.tmod (wI .i64 (Int.tdiv b.2 (List.length a:Int))) (24:Int))))))) (16777215:Int))) Z) Z Z Z) Z λD=>dK h λv h=>aG (g_ 1 lX Z Z Z (aX (aE.res 0 Z) lX) Z Z Z Z v Z) Z λA=>aC Z<|fF<|mP ?_;exact bT (b.1++([(eO .u32 (JS .u32 (BB .u32 (eO .u32 (at' a (Int.tmod b.2 (List.length a:Int))) (16777215:Int)) (wI .u64 (Int.tmod (wI .i64 (Int.tdiv b.2 (List.length a:Int))) (24:Int)))) (vN .u32 (eO .u32 (at' a (Int.tmod b.2 (List.length a:Int))) (16777215:Int)) (wI .u64 ((24:Int) - (wI .u64 (Int.tmod (wI .i64 (Int.tdiv b.2 (List.length a:Int))) (24:Int))))))) (16777215:Int))])) (A) h SF (aY.ix [1] Z Z) (aD.refl _ _)
   intro d g h;unfold rE at h;refine aR<|aA Z<|cO Z<|aC Z<|aK ?_;exact Ai (d,(wI .i64 (b.2+(1:Int)))) (g) h SF Z
  refine fE ?_;exact iI (b.1) (f) h SF Z
 intro j k h;unfold vK at h;refine aS<|aA Z<|aC Z<|aK<|aP ?_;cases h;exact kC (k) Z Z (RV.tmp Z) (aY.refl _) aD.nil
end Go.Proofs.YtjkjpdonlpdcaaaGreatDoor
namespace Go.Proofs.YtjkjpdonlpdcaaaGreatDoor
open Go Go.Sx
theorem Oq (x:Int):0<=wI .u64 x:=by
 rw[EJ];have:IntKind.u64.wrap x=x%18446744073709551616:=rfl;rw[this];omega
theorem Ti (l:aT) {n:Nat} (A:n<=900):∃a,pW 1000 l (n:Int)=some a∧a.length=n∧∀k:Nat,k<a.length->∃m:Nat,at' a (k:Int)=(m:Int)∧m<4294967296:=by
 unfold pW;obtain⟨⟨a,i⟩,⟨d,c,f⟩,u⟩:=BV (step:=oB l (n:Int)) (K:=λz=>some z.1) n
  (λk z=>z.2=(k:Int)∧z.1.length=k∧∀j:Nat,j<k->∃m:Nat,at' z.1 (j:Int)=(m:Int)∧m<4294967296) (λk z r w o=>by
  obtain⟨a,i⟩:=z;obtain⟨d,c,f⟩:=o;dsimp only at d c f;subst d;have b:∀m:Nat,m<4294967296->∀j:Nat,j<k+1->∃q:Nat,at' (a++[(m:Int)]) (j:Int)=(q:Int)∧q<4294967296:=λm p j v=>by
   rw[Mi a _ (by omega)];by_cases e:j<a.length
   ·rw[if_pos e];exact f j (by omega)
   ·rw[if_neg e];exact⟨m,rfl,p⟩
  have g:∀m:Nat,(List.length a:Int)+(List.length [(m:Int)]:Int)<=1099511627:=λm=>by simp;omega
  unfold oB rE;dsimp only;rw[if_pos (by omega),eY (by omega)];by_cases y:l.length=0
  ·rw[if_pos (by omega),cV (show(List.length a:Int)+(List.length [(4294967295:Int)]:Int)<=1099511627 from g 4294967295)];exact⟨_,⟨rfl,by simp[c],b 4294967295 (by omega)⟩,rfl⟩
  ·have s:Int.tmod (k:Int) (l.length:Int)=((k%l.length:Nat):Int):=rfl;have x:k%l.length<l.length:=Nat.mod_lt _ (by omega);rw[if_neg (by omega),cV (by omega),cV (by rw[s];omega),cV (by omega),cV (by decide),cV (Oq _),cV (Oq _)];have t:∀X:Int,∃m:Nat,eO .u32 X (16777215:Int)=(m:Int)∧m<4294967296:=λX=>⟨_,Lo _ _,Nat.lt_of_le_of_lt Nat.and_le_left (Lh _)⟩
   obtain⟨m,p,h⟩:=t (JS .u32 (BB .u32 (eO .u32 (at' l (Int.tmod (k:Int) (l.length:Int))) (16777215:Int)) (wI .u64 (Int.tmod (wI .i64 (Int.tdiv (k:Int) (l.length:Int))) (24:Int)))) (vN .u32 (eO .u32 (at' l (Int.tmod (k:Int) (l.length:Int))) (16777215:Int)) (wI .u64 ((24:Int) - (wI .u64 (Int.tmod (wI .i64 (Int.tdiv (k:Int) (l.length:Int))) (24:Int)))))));rw[p,cV (g m)];exact⟨_,⟨rfl,by simp[c],b m h⟩,rfl⟩) (λz r o=>by
  obtain⟨a,i⟩:=z;obtain⟨d,c,f⟩:=o;dsimp only at d;subst d;unfold oB vK;dsimp only;rw[if_neg (by omega)]) 1000 (([]:aT),(0:Int)) ⟨rfl,rfl,λj v=>by omega⟩ (by omega)
 exact⟨a,u,c,λk w=>f k (by dsimp only at c;omega)⟩
def adB (g:GR) (c:bW) (v i:Nat):Int:=at' (at' c (iA (row g v) i).1) 0
def exX:E:= .ite (.bi 37 (.ag 24 (.lf 12 0)) (.lf 6 0)) (.bi 33 (.ag 24 (.lf 12 0)) (.lf 1 1)) (.lf 6 0)
def exY:E:= .ag 23 (.bi 35 (.lf 12 0) (.ag 24 (.lf 12 0)))
def guT:E:= .bi 41 (.lf 10 0) (.bi 42 (.bi 36 (.lf 5 0) (.lf 1 0)) (.bi 36 (.lf 5 1) (.lf 4 0)))
def guB:E:= .bi 41 (.un 19 (.lf 10 0)) (.bi 42 (.bi 36 (.lf 5 0) exX) (.bi 36 (.lf 5 1) exY))
def lsB (g:GR) (c:bW) (v:Nat):aT:=(List.range (row g v).length).map λq=>adB g c v q
def XB (g:GR) (c:bW) (v:Nat):Int:=if Jp (lsB g c v)<(g.1.length:Int)then HD (wI .i64 (Jp (lsB g c v)+1))else(g.1.length:Int)
def YB (g:GR) (c:bW) (v:Nat):Int:=qB ((List.range (row g v).length).map λq=>Gt (decide (adB g c v q=Jp (lsB g c v))))
def TB (g:GR) (c:bW) (v:Nat):eD:=if v=0 then(0,-1)else(XB g c v,YB g c v)
theorem IG (b:Bool):Gt b≠0↔b=true:=by cases b<;>simp[Gt]
section
variable {p:Gq} {g:GR} {c:List (List Int)} {v:Nat}
theorem Sw (l:List Int) : -1<=qB l∧qB l<=(l.length:Int) - 1:=by
 unfold qB;cases h:l.findIdx? nz with
 |none=>dsimp only;omega
 |some i=>
  obtain⟨a,_⟩:=List.findIdx?_eq_some_iff_getElem.1 h;dsimp only;omega
theorem BQ {k a b x:Int} (d:a<=x) (e:x<=b):w_ k (a,b) x=x:=by unfold w_;rw[if_pos ⟨d,e⟩]
end
def Cl (k:Nat) (x y:Int):Prop:=(y<(k:Int)->x=y)∧((k:Int)<=y->(k:Int)<=x)
section
variable {L:Int->Int->Int->Int} {deg:Nat} {x y:E} {q:Int}
theorem QK:(E.bi 41 x y).den L deg q≠0↔x.den L deg q≠0∧y.den L deg q≠0:=by
 show Gt (decide (x.den L deg q≠0)&&decide (y.den L deg q≠0))≠0↔_;rw[IG,Bool.and_eq_true,decide_eq_true_eq,decide_eq_true_eq]
theorem Lw:(E.bi 42 x y).den L deg q≠0↔x.den L deg q≠0∨y.den L deg q≠0:=by
 show Gt (decide (x.den L deg q≠0)||decide (y.den L deg q≠0))≠0↔_;rw[IG,Bool.or_eq_true,decide_eq_true_eq,decide_eq_true_eq]
theorem Gy:(E.bi 36 x y).den L deg q≠0↔x.den L deg q≠y.den L deg q:=by
 show Gt (decide (x.den L deg q≠y.den L deg q))≠0↔_;rw[IG,decide_eq_true_eq]
end
def DY (c:List (List Int)) (v:Nat) (x:Int):Int:=at' (at' c (v:Int)) x
def Mv (g:GR) (c:List (List Int)) (v i:Nat) (x:Int):Int:=at' (at' c (iA (row g v) i).1) x
theorem VI {g:GR} {c:List (List Int)} {v i u:Nat} {x:Int} (h:(iA (row g v) i).1=(u:Int)):Mv g c v i x=DY c u x:=by unfold Mv DY;rw[h]
def inP:E:= .bi 35 (.lf 11 0) (.lf 5 1)
def agL:E:= .bi 41 (.bi 41 (.lf 10 0) (.un 19 (.lf 5 2))) (.lf 5 5)
def agM:E:= .bi 41 (.un 19 (.lf 10 0)) (.ag 21 (.bi 41 inP (.bi 42 (.bi 36 (.lf 12 3) (.lf 5 3)) (.bi 41 (.lf 5 2) (.un 19 (.lf 12 2))))))
def agN:E:= .bi 41 (.lf 5 2) (.ag 20 (.bi 42 (.bi 36 (.lf 12 1) (.lf 17 0)) (.bi 41 (.un 19 (.lf 12 2)) (.bi 35 (.lf 12 3) (.lf 5 3)))))
def agO:E:= .bi 41 (.bi 41 (.un 19 (.lf 5 2)) (.un 19 (.lf 5 5))) (.ag 21 (.bi 41 (.bi 41 (.bi 35 (.lf 12 1) (.lf 17 0)) (.lf 12 5)) (.un 19 (.lf 12 2))))
def RS:List RL:=[(guT,[(0,.lf 1 0),(1,.lf 4 0)]),(guB,[(0,exX),(1,exY)]),(agL,[(2,.lf 2 0),(3,.un 19 (.lf 5 3)),(4,.lf 1 0),(5,.lf 3 0)]),
 (agM,[(2,.ag 21 (.bi 41 inP (.lf 12 2))),(3,.ag 21 (.bi 41 inP (.lf 12 3))),(4,.lf 1 0),(5,.lf 3 0)]),(agN,[(2,.lf 3 0)]),(agO,[(5,.lf 2 0)])]
theorem ady {g:GR} {a:List Hi} (b:zW g a) {x:Nat} (c:x<a.length) (v:Nat):lo g (at' a (x:Int)) v<=hi g (at' a (x:Int)) v:=by
 rcases b.kind x c with k|k|k
 ·have h:=(b.range x c k).2.1;unfold lo hi at h ⊢;rw[k]at h ⊢;simpa using h
 ·unfold lo hi;rw[k];simp
 ·unfold lo hi;rw[k];simp;omega
theorem Sf {g:GR} {a:List Hi} (b:zW g a) {x:Nat} (c:x<a.length) (v:Nat) (y:Int):lo g (at' a (x:Int)) v<=w_ (at' a (x:Int)).2.1 (tJ g a v x) y∧w_ (at' a (x:Int)).2.1 (tJ g a v x) y<=hi g (at' a (x:Int)) v:=by
 have h:=ady b c v;unfold w_ tJ;dsimp only;split
 ·assumption
 ·split
  ·rename_i k;unfold lo hi;rw[k];simp;omega
  ·split<;>omega
section
variable {S:By} {vars:List Hi} {R:List RL} {c:List (List Int)} {t v:Nat}
theorem Wg (f:zW S.2.1 vars) {a:List Int} (d:a.length=vars.length) (h:∀x,x<vars.length->lo S.2.1 (at' vars (x:Int)) v<=at' a (x:Int)∧at' a (x:Int)<=hi S.2.1 (at' vars (x:Int)) v) (s:Nat×E):
  (GY S vars c v a s).length=vars.length∧∀x,x<vars.length->lo S.2.1 (at' vars (x:Int)) v<=at' (GY S vars c v a s) (x:Int)∧at' (GY S vars c v a s) (x:Int)<=hi S.2.1 (at' vars (x:Int)) v:=by
 unfold GY;refine⟨by rw[List.length_set,d],λx b=> ?_⟩
 by_cases g:s.1<a.length
 ·rw[zY a s.1 x _ g];split
  ·rename_i e;rw[<-e];exact Sf f b v _
  ·exact h x b
 ·rw[List.set_eq_of_length_le (by omega)];exact h x b
theorem KE (k:zW S.2.1 vars) (h:MN S.2.1 c vars) (j:v<S.2.1.2.length) (i:Int):(Aj S vars R c v i).length=vars.length∧∀x,x<vars.length->lo S.2.1 (at' vars (x:Int)) v<=at' (Aj S vars R c v i) (x:Int)∧at' (Aj S vars R c v i) (x:Int)<=hi S.2.1 (at' vars (x:Int)) v:=by
 have g:∀(l:List (Nat×E)) (d:List Int),d.length=vars.length->(∀x,x<vars.length->lo S.2.1 (at' vars (x:Int)) v<=at' d (x:Int)∧at' d (x:Int)<=hi S.2.1 (at' vars (x:Int)) v)->
   (l.foldl (GY S vars c v) d).length=vars.length∧∀x,x<vars.length->lo S.2.1 (at' vars (x:Int)) v<=at' (l.foldl (GY S vars c v) d) (x:Int)∧at' (l.foldl (GY S vars c v) d) (x:Int)<=hi S.2.1 (at' vars (x:Int)) v:=by
  intro l
  induction l with
  |nil=>intro d e f;exact⟨e,f⟩
  |cons s l m=>
   intro d e f;obtain⟨a,b⟩:=Wg (c:=c) k e f s;exact m _ a b
 exact g _ _ (h.row v j) (h.ok v j)
theorem Td (e:zW S.2.1 vars) (a:MN S.2.1 c vars):MN S.2.1 (zT S vars R c t) vars:=by
 have d:=a.len;refine⟨by rw[KN,d],λv b=> ?_,λv b x f=> ?_⟩
 ·rw[FX (by omega)];split
  ·exact(KE e a b _).1
  ·exact a.row v b
 ·unfold val;rw[FX (by omega)];split
  ·exact(KE e a b _).2 x f
  ·exact a.ok v b x f
end
def ldK:E:= .bi 33 (.bi 30 (.lf 12 0) (.lf 6 0)) (.lf 12 1)
def Tm:E:= .ag 24 (.ite (.bi 37 (.bi 33 (.lf 12 1) (.lf 1 1)) (.lf 6 0)) ldK (.bi 30 (.bi 33 (.lf 7 0) (.lf 1 1)) (.lf 6 0)))
def ldI:E:= .bi 30 (.lf 8 0) (.lf 6 0)
def ldQ:E:= .bi 31 Tm (.lf 6 0)
def ldD:E:= .bi 33 (.bi 32 Tm (.lf 6 0)) (.lf 1 1)
def ldP:E:= .ag 23 (.bi 35 ldK Tm)
def guO:E:= .bi 41 (.bi 38 ldI Tm) (.bi 42 (.bi 42 (.bi 36 (.lf 5 0) (.lf 8 0)) (.bi 36 (.lf 5 1) (.lf 1 0))) (.bi 36 (.lf 5 2) (.lf 4 0)))
def guJ:E:= .bi 41 (.bi 39 ldI Tm) (.bi 42 (.bi 42 (.bi 36 (.lf 5 0) ldQ) (.bi 36 (.lf 5 1) ldD)) (.bi 36 (.lf 5 2) ldP))
def RE:List RL:=[(guO,[(0,.lf 8 0),(1,.lf 1 0),(2,.lf 4 0)]),(guJ,[(0,ldQ),(1,ldD),(2,ldP)])]
theorem YW:AN 3 RE=true:=by decide +kernel
def qQ:List Hi:=[(ByteArray.mk #[108,101,97,100],1,0,0,0,1),(ByteArray.mk #[100],1,0,-1,1,0),(ByteArray.mk #[112],3,0,0,0,0)]
theorem Wi:∀x,x<qQ.length->Fy (at' qQ (x:Int)):=by
 intro x a;have a:x<3:=a
 match x,a with
 |0,_=>exact⟨by decide,by decide,by decide⟩
 |1,_=>exact⟨by decide,by decide,by decide⟩
 |2,_=>exact⟨by decide,by decide,by decide⟩
theorem YF (g:GR) (v:Nat):lo g (at' qQ ((0:Nat):Int)) v=0:=rfl
theorem YG (g:GR) (v:Nat):lo g (at' qQ ((1:Nat):Int)) v=0:=rfl
theorem aaS (g:GR) (v:Nat):lo g (at' qQ ((2:Nat):Int)) v = -1:=rfl
theorem Yq (g:GR) (v:Nat):hi g (at' qQ ((0:Nat):Int)) v=fO g g.1.length:=by
 show(0:Int)+0*(g.2.length:Int)+1*fO g g.1.length=_;omega
theorem Yr (g:GR) (v:Nat):hi g (at' qQ ((1:Nat):Int)) v=(g.2.length:Int) - 1:=by
 show(-1:Int)+1*(g.2.length:Int)+0*fO g g.1.length=_;omega
theorem aaI (g:GR) (v:Nat):hi g (at' qQ ((2:Nat):Int)) v=((row g v).length:Int) - 1:=rfl
theorem ZD {g:GR} (b:VG g):zW g qQ:=by
 have e:=b.n24;have f:=b.n1;have d:=b.len;have h:=rB b g.1.length (by omega);refine⟨by decide,Wi,λx a=> ?_,λx a c=> ?_⟩
 ·have a:x<3:=a
  match x,a with
  |0,_=>exact .inl Z
  |1,_=>exact .inl Z
  |2,_=>exact .inr (.inr Z)
 ·have a:x<3:=a
  match x,a,c with
  |0,_,_=>rw[YF,Yq];omega
  |1,_,_=>rw[YG,Yr];omega
  |2,_,c=>exact absurd c (by decide)
theorem Nz (g:GR):∀{k v:Nat},v<k->at' g.1 (v:Int)<=fO g k
 |0,v,h=>absurd h (Nat.not_lt_zero v)
 |k+1,v,h=>by
  simp only[fO];by_cases e:v=k
  ·subst e;omega
  ·have:=Nz g (k:=k) (v:=v) (by omega);omega
theorem NY {x:Int} (a : -1073741824<=x) (b:x<=1073741824):HD (wI .i64 x)=x:=by
 rw[wr (by omega) (by omega)];unfold HD;omega
theorem PD {a n:Int} (c:0<=a) (d:a<=300) (b:0<=n) (e:n<=24):0<=a*n∧a*n<=7200:=
 ⟨Int.mul_nonneg c b,Int.mul_le_mul d e b (by omega)⟩
theorem PC {a b n:Int} (h:a<b) (c:0<=n):a*n+n<=b*n:=by
 have:=Int.mul_le_mul_of_nonneg_right (show a+1<=b by omega) c;rw[Int.add_mul,Int.one_mul]at this;exact this
theorem Rm {a b:Int} (c:0<=a) (d:a<=1073741824) (g:0<b):NQ a b=a / b:=by
 unfold NQ;have e:0<=a / b:=Int.ediv_nonneg c (by omega);have f:a / b<=a:=Int.ediv_le_self b c;rw[if_neg (by omega),decide_eq_false (show¬a<0 by omega),decide_eq_false (show¬b<0 by omega),if_neg (by simp),Int.tdiv_eq_ediv_of_nonneg c,wr (by omega) (by omega)]
theorem aaw {a b:Int} (c:0<=a) (d:a<=1073741824) (e:0<b):ZX 31 a b=a / b:=by
 show HD (NQ a b)=_;have f:0<=a / b:=Int.ediv_nonneg c (by omega);have g:a / b<=a:=Int.ediv_le_self b c;rw[Rm c d e];unfold HD;omega
theorem aaX {a b:Int} (e:0<=a) (c:a<=1073741824) (d:0<b) (f:b<=1000):ZX 32 a b=a%b:=by
 show(if b=0 then 0 else HD (wI .i64 (a - wI .i64 (b*NQ a b))))=_;have g:=Int.emod_nonneg a (show b≠0 by omega);have h:=Int.emod_lt_of_pos a d;have i:=Int.emod_def a b;rw[if_neg (by omega),Rm e c d,wr (x:=b*(a / b)) (by omega) (by omega),NY (by omega) (by omega)];omega
theorem LN {a d n:Int} (b:0<=d) (c:d<n):(a*n+d) / n=a:=by
 rw[Int.add_comm,Int.add_mul_ediv_right _ _ (by omega),Int.ediv_eq_zero_of_lt b c];omega
theorem QY {a d n:Int} (b:0<=d) (c:d<n):(a*n+d)%n=d:=by
 have h:=Int.emod_def (a*n+d) n;rw[LN b c,Int.mul_comm n a]at h;omega
theorem adG (l:aT) (h:l.length=3) (x y z:Int):at' (((l.set 0 x).set 1 y).set 2 z) 0=x∧at' (((l.set 0 x).set 1 y).set 2 z) 1=y∧at' (((l.set 0 x).set 1 y).set 2 z) 2=z:=by
 match l,h with
 | [a,b,c],_=>exact⟨rfl,rfl,rfl⟩
def Tl (g:GR) (c:bW) (v i:Nat):Int:=Mv g c v i 0*(g.1.length:Int)+Mv g c v i 1
def Nn (g:GR) (c:bW) (v i:Nat):Int:=if Mv g c v i 1+1<(g.1.length:Int)then Tl g c v i else(fO g g.2.length+1)*(g.1.length:Int)
def mL (g:GR) (c:bW) (v:Nat):Int:=Jp ((List.range (row g v).length).map (Nn g c v))
def t_ (g:GR) (v:Nat):Int:=at' g.1 (v:Int)
def TL (g:GR) (c:bW) (v:Nat):Int×Int×Int:=
 if t_ g v*(g.1.length:Int)<=mL g c v then(t_ g v,0,-1)
 else(mL g c v / (g.1.length:Int),mL g c v%(g.1.length:Int)+1,qB ((List.range (row g v).length).map λi=>Gt (decide (Tl g c v i=mL g c v))))
def Zl (c:bW) (v:Nat) (t:Int×Int×Int):Prop:=DY c v 0=t.1∧DY c v 1=t.2.1∧DY c v 2=t.2.2
section
variable {p:Gq} {g:GR} {c:List (List Int)} {v:Nat} (hV:VG g) (hc:MN g c qQ) (hv:v<g.2.length)
 include hV hc
theorem LB {u:Nat} (e:u<g.2.length):(0<=DY c u 0∧DY c u 0<=fO g g.2.length)∧(0<=DY c u 1∧DY c u 1<=(g.2.length:Int) - 1)∧(-1<=DY c u 2∧DY c u 2<=((row g u).length:Int) - 1):=by
 have a:=hc.ok u e 0 (by decide);have b:=hc.ok u e 1 (by decide);have d:=hc.ok u e 2 (by decide);rw[YF,Yq,hV.len]at a;rw[YG,Yr]at b;rw[aaS,aaI]at d;exact⟨a,b,d⟩
 include hv
 omit hc in
theorem SU {i:Nat} (d:i<(row g v).length):∃u:Nat,u<g.2.length∧(iA (row g v) i).1=(u:Int)∧Iq g v u∧Mv g c v i 0=DY c u 0∧Mv g c v i 1=DY c u 1:=by
  obtain⟨u,e,a,b⟩:=hV.port hv d;exact⟨u,e,a,b,VI a,VI a⟩
theorem Vq {i:Nat} (f:i<(row g v).length):ldK.den (JU (cT p g,c,(v:Int),[])) (row g v).length (i:Int)=Tl g c v i:=by
 have e:=hV.n24;have d:=hV.len;obtain⟨u,h,_,_,j,l⟩:=SU (c:=c) hV hv f;obtain⟨a,b,_⟩:=LB hV hc h;have m:=rB hV g.2.length (by omega);have k:=PD (a:=Mv g c v i 0) (n:=(g.1.length:Int)) (by omega) (by omega) (by omega) (by omega);show HD (wI .i64 (HD (wI .i64 (Mv g c v i 0*(g.1.length:Int)))+Mv g c v i 1))=Tl g c v i;rw[NY (x:=Mv g c v i 0*(g.1.length:Int)) (by omega) (by omega),NY (by omega) (by omega)];rfl
theorem Jk (q:Int):Tm.den (JU (cT p g,c,(v:Int),[])) (row g v).length q=mL g c v:=by
 have f:=hV.n24;have e:=hV.len;have r:=rB hV g.2.length (by omega);refine congrArg Jp (List.map_congr_left λi d=> ?_);have d:=List.mem_range.1 d;obtain⟨u,l,_,_,m,o⟩:=SU (c:=c) hV hv d;obtain⟨a,b,_⟩:=LB hV hc l;have j:=Vq (p:=p) hV hc hv d;have k:=PD (a:=fO g g.2.length+1) (n:=(g.1.length:Int)) (by omega) (by omega) (by omega) (by omega);show(if Gt (decide (HD (wI .i64 (Mv g c v i 1+1))<(g.1.length:Int)))≠0 then ldK.den (JU (cT p g,c,(v:Int),[])) (row g v).length (i:Int)else HD (wI .i64 (HD (wI .i64 (fO g g.2.length+1))*(g.1.length:Int))))=Nn g c v i;rw[NY (x:=Mv g c v i 1+1) (by omega) (by omega),NY (x:=fO g g.2.length+1) (by omega) (by omega),NY (by omega) (by omega),j];unfold Nn;by_cases h:Mv g c v i 1+1<(g.1.length:Int)
 ·rw[if_pos h,if_pos (by rw[IG];exact decide_eq_true h)]
 ·rw[if_neg h,if_neg (by rw[IG];simpa using h)]
theorem ac_ {i:Nat} (f:i<(row g v).length):0<=Nn g c v i:=by
 have e:=hV.n24;have d:=hV.len;have m:=rB hV g.2.length (by omega);obtain⟨u,h,_,_,j,l⟩:=SU (c:=c) hV hv f;obtain⟨a,b,_⟩:=LB hV hc h;have k:=PD (a:=fO g g.2.length+1) (n:=(g.1.length:Int)) (by omega) (by omega) (by omega) (by omega);have o:=PD (a:=Mv g c v i 0) (n:=(g.1.length:Int)) (by omega) (by omega) (by omega) (by omega);unfold Nn Tl;split<;>omega
theorem Ra:(0<=mL g c v∧mL g c v<=1073741824)∧(∀i,i<(row g v).length->mL g c v<=Nn g c v i)∧(mL g c v=1073741824∨∃i,i<(row g v).length∧mL g c v=Nn g c v i):=by
 have h:∀i,i<(row g v).length->mL g c v<=Nn g c v i:=λi f=>YJ (List.mem_map.2 ⟨i,List.mem_range.2 f,rfl⟩);have l:=hV.n24;have j:=hV.len;have s:=rB hV g.2.length (by omega);have d:mL g c v=1073741824∨∃i,i<(row g v).length∧mL g c v=Nn g c v i:=by
  rcases VD ((List.range (row g v).length).map (Nn g c v))with e|e
  ·exact .inl e
  ·obtain⟨i,f,m⟩:=List.mem_map.1 e;exact .inr ⟨i,List.mem_range.1 f,m.symm⟩
 refine⟨?_,h,d⟩
 rcases d with e|⟨i,f,e⟩
 ·omega
 ·have:=ac_ hV hc hv f;obtain⟨u,o,_,_,q,r⟩:=SU (c:=c) hV hv f;obtain⟨a,b,_⟩:=LB hV hc o;have k:=PD (a:=fO g g.2.length+1) (n:=(g.1.length:Int)) (by omega) (by omega) (by omega) (by omega);have t:=PD (a:=Mv g c v i 0) (n:=(g.1.length:Int)) (by omega) (by omega) (by omega) (by omega);rw[e];refine⟨this,?_⟩
  unfold Nn Tl;split<;>omega
 omit hc in
theorem Jd:(0<=t_ g v∧t_ g v<=fO g g.2.length)∧(0<=t_ g v*(g.1.length:Int)∧t_ g v*(g.1.length:Int)<=7200):=by
  have b:=hV.n24;have a:=hV.len;have i:=rB hV g.2.length (by omega);have h:=(hV.node v hv).id;have d:=Nz g (k:=g.2.length) hv;have e:t_ g v=Vj g v:=rfl;have f:at' g.1 (v:Int)=t_ g v:=rfl;refine⟨by omega,PD (by omega) (by omega) (by omega) (by omega)⟩
 omit hc in
theorem Vp (q:Int):ldI.den (JU (cT p g,c,(v:Int),[])) (row g v).length q=t_ g v*(g.1.length:Int):=by
  obtain⟨_,k⟩:=Jd hV hv;show HD (wI .i64 (t_ g v*(g.1.length:Int)))=_;rw[NY (by omega) (by omega)]
theorem Vs:pL (cT p g) c v ldQ=mL g c v / (g.1.length:Int):=by
 have b:=hV.n1;have a:=hV.len;obtain⟨k,_⟩:=Ra hV hc hv;show ZX 31 (Tm.den (JU (cT p g,c,(v:Int),[])) (row g v).length (-1)) (g.1.length:Int)=_;rw[show Tm.den (JU (cT p g,c,(v:Int),[])) (row g v).length (-1)=_ from Jk hV hc hv _];exact aaw k.1 k.2 (by omega)
theorem Vo:pL (cT p g) c v ldD=mL g c v%(g.1.length:Int)+1:=by
 have f:=hV.n1;have e:=hV.n24;have d:=hV.len;obtain⟨k,_⟩:=Ra hV hc hv;have a:=Int.emod_nonneg (mL g c v) (show(g.1.length:Int)≠0 by omega);have b:=Int.emod_lt_of_pos (mL g c v) (show 0<(g.1.length:Int) by omega);show HD (wI .i64 (ZX 32 (Tm.den (JU (cT p g,c,(v:Int),[])) (row g v).length (-1)) (g.1.length:Int)+1))=_;rw[Jk hV hc hv,aaX k.1 k.2 (by omega) (by omega),NY (by omega) (by omega)]
theorem Vr:pL (cT p g) c v ldP=qB ((List.range (row g v).length).map λi=>Gt (decide (Tl g c v i=mL g c v))):=by
 refine congrArg qB (List.map_congr_left λi a=> ?_);have a:=List.mem_range.1 a;show Gt (decide (ldK.den (JU (cT p g,c,(v:Int),[])) (row g v).length (i:Int)=Tm.den (JU (cT p g,c,(v:Int),[])) (row g v).length (i:Int)))=_;rw[Vq hV hc hv a,Jk hV hc hv]
theorem QS:pL (cT p g) c v guO≠0↔t_ g v*(g.1.length:Int)<=mL g c v∧((DY c v 0≠t_ g v∨DY c v 1≠0)∨DY c v 2 ≠ -1):=by
 unfold pL guO;rw[QK,Lw,Lw,Gy,Gy,Gy];refine and_congr ?_ Iff.rfl;show Gt (decide (ldI.den (JU (cT p g,c,(v:Int),[])) (row g v).length (-1)<=Tm.den (JU (cT p g,c,(v:Int),[])) (row g v).length (-1)))≠0↔_;rw[IG,decide_eq_true_eq,Vp hV hv,Jk hV hc hv]
theorem QR:pL (cT p g) c v guJ≠0↔mL g c v<t_ g v*(g.1.length:Int)∧((DY c v 0≠pL (cT p g) c v ldQ∨DY c v 1≠pL (cT p g) c v ldD)∨DY c v 2≠pL (cT p g) c v ldP):=by
 unfold pL guJ;rw[QK,Lw,Lw,Gy,Gy,Gy];refine and_congr ?_ Iff.rfl;show Gt (decide (Tm.den (JU (cT p g,c,(v:Int),[])) (row g v).length (-1)<ldI.den (JU (cT p g,c,(v:Int),[])) (row g v).length (-1)))≠0↔_;rw[IG,decide_eq_true_eq,Vp hV hv,Jk hV hc hv]
theorem Wc (h:0<=rC (cT p g) RE c v):(rC (cT p g) RE c v=0∧t_ g v*(g.1.length:Int)<=mL g c v)∨(rC (cT p g) RE c v=1∧mL g c v<t_ g v*(g.1.length:Int)):=by
 obtain⟨i,b,a,d⟩:=(Jx (cT p g) RE c v).resolve_left (λe=>by omega);have a:i<2:=a
 match i,a with
 |0,_=>exact .inl ⟨b,((QS hV hc hv).1 d).1⟩
 |1,_=>exact .inr ⟨b,((QR hV hc hv).1 d).1⟩
theorem KL (h:¬0<=rC (cT p g) RE c v):Zl c v (TL g c v):=by
 have e:rC (cT p g) RE c v = -1:=by
  rcases Jx (cT p g) RE c v with e|⟨i,f,_⟩
  ·exact e
  ·omega
 have a:¬pL (cT p g) c v guO≠0:=λq=>q (Jy.1 e 0 (by decide));have b:¬pL (cT p g) c v guJ≠0:=λq=>q (Jy.1 e 1 (by decide));rw[QS hV hc hv]at a;rw[QR hV hc hv,Vs hV hc hv,Vo hV hc hv,Vr hV hc hv]at b;unfold Zl TL;by_cases h:t_ g v*(g.1.length:Int)<=mL g c v
 ·rw[if_pos h];exact⟨Decidable.not_not.1 λq=>a ⟨h,.inl (.inl q)⟩,Decidable.not_not.1 λq=>a ⟨h,.inl (.inr q)⟩,Decidable.not_not.1 λq=>a ⟨h,.inr q⟩⟩
 ·rw[if_neg h];have d:mL g c v<t_ g v*(g.1.length:Int):=by omega
  exact⟨Decidable.not_not.1 λq=>b ⟨d,.inl (.inl q)⟩,Decidable.not_not.1 λq=>b ⟨d,.inl (.inr q)⟩,Decidable.not_not.1 λq=>b ⟨d,.inr q⟩⟩
theorem Zu (h:mL g c v<t_ g v*(g.1.length:Int)):∃i u:Nat,i<(row g v).length∧u<g.2.length∧Iq g v u∧DY c u 1+1<(g.1.length:Int)∧mL g c v=DY c u 0*(g.1.length:Int)+DY c u 1∧mL g c v / (g.1.length:Int)=DY c u 0∧mL g c v%(g.1.length:Int)=DY c u 1:=by
 obtain⟨s,t⟩:=Jd hV hv;obtain⟨_,_,e|⟨i,j,e⟩⟩:=Ra hV hc hv
 ·omega
 obtain⟨u,k,r,o,l,m⟩:=SU (c:=c) hV hv j;obtain⟨w,x,_⟩:=LB hV hc k;have f:Mv g c v i 1+1<(g.1.length:Int):=by
  refine Decidable.not_not.1 λq=> ?_;unfold Nn at e;rw[if_neg q]at e;have:=PC (a:=t_ g v) (b:=fO g g.2.length+1) (n:=(g.1.length:Int)) (by omega) (by omega);omega
 have d:mL g c v=DY c u 0*(g.1.length:Int)+DY c u 1:=by
  rw[e];unfold Nn Tl;rw[if_pos f,l,m]
 refine⟨i,u,j,k,o,by omega,d,?_,?_⟩
 ·rw[d];exact LN (by omega) (by omega)
 ·rw[d];exact QY (by omega) (by omega)
theorem adA (h:0<=rC (cT p g) RE c v):at' (Aj (cT p g) qQ RE c v (rC (cT p g) RE c v)) 0=(TL g c v).1∧at' (Aj (cT p g) qQ RE c v (rC (cT p g) RE c v)) 1=(TL g c v).2.1∧at' (Aj (cT p g) qQ RE c v (rC (cT p g) RE c v)) 2=(TL g c v).2.2:=by
 have A:=hV.n1;have b:=hV.len;have m:(at' c (v:Int)).length=3:=hc.row v hv;have j:tJ g qQ v 0=(0,fO g g.2.length):=by unfold tJ;rw[YF,Yq,b]
 have k:tJ g qQ v 1=(0,(g.2.length:Int) - 1):=by unfold tJ;rw[YG,Yr]
 have l:tJ g qQ v 2=(-1,((row g v).length:Int) - 1):=by unfold tJ;rw[aaS,aaI]
 obtain⟨q,r⟩:=Jd hV hv;rcases Wc hV hc hv h with⟨e,a⟩|⟨e,a⟩
 ·have d:Aj (cT p g) qQ RE c v 0=(((at' c (v:Int)).set 0 (w_ 1 (tJ g qQ v 0) (t_ g v))).set 1 (w_ 1 (tJ g qQ v 1) 0)).set 2 (w_ 3 (tJ g qQ v 2) (-1)):=rfl;have f:TL g c v=(t_ g v,0,-1):=by unfold TL;rw[if_pos a]
  rw[f,e,d,j,k,l,BQ (by omega) (by omega),BQ (by omega) (by omega),BQ (by omega) (by omega)];exact adG _ m _ _ _
 ·have d:Aj (cT p g) qQ RE c v 1=(((at' c (v:Int)).set 0 (w_ 1 (tJ g qQ v 0) (pL (cT p g) c v ldQ))).set 1 (w_ 1 (tJ g qQ v 1) (pL (cT p g) c v ldD))).set 2 (w_ 3 (tJ g qQ v 2) (pL (cT p g) c v ldP)):=rfl;have f:TL g c v=(mL g c v / (g.1.length:Int),mL g c v%(g.1.length:Int)+1,qB ((List.range (row g v).length).map λi=>Gt (decide (Tl g c v i=mL g c v)))):=by unfold TL;rw[if_neg (by omega)]
  obtain⟨i,u,C,o,B,s,t,w,x⟩:=Zu hV hc hv a;obtain⟨y,z,_⟩:=LB hV hc o;have n:=Sw ((List.range (row g v).length).map λi=>Gt (decide (Tl g c v i=mL g c v)));rw[List.length_map,List.length_range]at n;rw[f,e,d,j,k,l,Vs hV hc hv,Vo hV hc hv,Vr hV hc hv,BQ (by omega) (by omega),BQ (by omega) (by omega),BQ (by omega) (by omega)];exact adG _ m _ _ _
end
end Go.Proofs.YtjkjpdonlpdcaaaGreatDoor
namespace Go.Proofs.YtjkjpdonlpdcaaaGreatDoor
open Go.Sx
def uW  (a:Bool):Option (Bool):=
 some (a)
def sO (U:Nat) (a:Int):Option (Bool):=
 if(1:Int)<=a then(uW  (decide (a<=(4:Int))))else(uW  (false))
theorem Ut:aQ Tryz.prog 44:=Tryz.call44
theorem DC (U:Nat) {b:Int} (r:Bool) (h:sO U b=some r):
  bA Tryz.prog 44 #[vI (b)] [] (λx:Unit=>vB (r)) (λx l=>l) (λ_ l=>l):=by
 refine bA.of Tryz.func44 Z Tryz.ntmps44 Z λc=>?_;refine aS<|aC Z<|aK<|aI<|d_ (λa=>uW  a=some r) (λa d=>[(2,vB (a))]) (λa d=>[]) ?_ ?_
 ·refine aR<|aA Z<|aB (wP Z Z) Z<|aA Z ?_;refine Cd h Z (λ_ h=>?_) λ_ h=>?_
  ·refine eS Z<|aV Z (BO Z Z) Z<|dU Z<|aC Z<|aK ?_;exact iI (decide (b<=(4:Int))) () h SF Z
  refine aL Z<|aL Z<|e_ Z<|aC Z<|aK ?_;exact iI (false) () h SF Z
 intro a d h;unfold uW at h;refine aP ?_;cases h;exact kM Z
def tD  (a:Bool):Option (Bool):=
 some (a)
def pS  (a:Bool):Option (Bool):=
 some (a)
def tC (e:Int) (c:cB) (b:Int) (a:Int) (d:Bool):Option (Bool):=
 if d=true then(if(-1:Int)<=a then(ck (0<=b∧b<(List.length c.2:Int)) (tD  (decide (a<(List.length (at' c.2 b):Int)))))else(tD  (false)))else(if e=(2:Int)then(if a=(0:Int)then(pS  (true))else(pS  (decide (a=(1:Int)))))else(some (decide (a=(0:Int)))))
def q_ (U:Nat) (a:Int) (b:cB) (c:Int) (d:Int):Option (Bool):=
 if a=(1:Int)then(tC a b c d (decide (a=(1:Int))))else(tC a b c d (decide (a=(4:Int))))
theorem Qq:aQ Tryz.prog 116:=Tryz.call116
theorem CS (U:Nat) {d:Int} {j:cB} {k:Int} {e:Int} (m:Value)  (n:Value)  (s:mH) (r:Bool) (h:q_ U d j k e=some r):
  bA Tryz.prog 116 #[vI (d),Value.agg #[m,n],vI (k),vI (e)] [Sl bN m j.1,S2 aO n s j.2] (λx:Unit=>vB (r)) (λx l=>l) (λ_ l=>l):=by
 refine bA.of Tryz.func116 Z Tryz.ntmps116 Z λc=>?_;refine aS<|aG (aJ.box (cs:=[m,n]) Z Z) Z λo=>aC Z<|aK<|aI<|aS<|aA Z<|aK<|aU<|aI<|d_ (λf=>tC d j k e f=some r) (λf p=>[(2,vI (k)),(3,vI (e)),(5,vP o),(9,vI (d)),(10,vB (f))]) (λf p=>[bH o [m,n] 27]) ?_ ?_
 ·refine aS<|cC Z<|aC Z<|aK ?_;refine eZ h Z (λh=>?_) λh=>?_
  ·refine cE ?_;exact iI (decide (d=(1:Int))) () h SF Z
  refine aR<|cC Z<|aC Z<|aK ?_;exact iI (decide (d=(4:Int))) () h SF Z
 intro f p h;refine yC h Z (λ_ h=>?_) λ_ h=>?_
 ·refine aI<|d_ (λg=>tD  g=some r) (λg q=>[(8,vB (g))]) (λg q=>[]) ?_ ?_
  ·refine aR<|aA Z<|aB (wP Z Z) Z<|aA Z ?_;refine Cd h Z (λ_ h=>?_) λ_ h=>?_
   ·refine eS Z<|aV Z (dR Z Z Z Z Z) Z<|aV Z (cK 0 Z Z Z Z Z) Z<|eS Z<|dK h λb h=>aV Z (cQ Z Z (aE.fact 1 Z) Z Z b) Z<|aV Z (cL Z (aE.fact 1 Z) Z Z b) Z<|aV Z (fG Z (aE.el (aE.fact 1 Z) b.1 b.2) Z) Z<|aV Z (Hj Z Z) Z<|dU Z<|aC Z<|aK ?_;exact bT (decide (e<(List.length (at' j.2 k):Int))) () h SF .nil (aD.refl _ _)
   refine aL Z<|aL Z<|aL Z<|aL Z<|aL Z<|aL Z<|aL Z<|aL Z<|e_ Z<|aC Z<|aK ?_;exact bT (false) () h SF .nil (aD.refl _ _)
  intro g q h;unfold tD at h;refine aP<|bO<|aH ?_;cases h;exact kM Z
 refine aS<|cC Z<|aC Z<|aK ?_;refine eZ h Z (λh=>?_) λh=>?_
 ·refine aI<|d_ (λa=>pS  a=some r) (λa i=>[(8,vB (a))]) (λa i=>[]) ?_ ?_
  ·refine aR<|aA Z<|cC Z<|aA Z ?_;refine Cd h Z (λ_ h=>?_) λ_ h=>?_
   ·refine aL Z<|aL Z<|dU Z<|aC Z<|aK ?_;exact bT (true) () h SF .nil (aD.refl _ _)
   refine eS Z<|aV Z (De Z Z) Z<|e_ Z<|aC Z<|aK ?_;exact bT (decide (e=(1:Int))) () h SF .nil (aD.refl _ _)
  intro a i h;unfold pS at h;refine aP<|bO<|aH ?_;cases h;exact kM Z
 refine dJ<|mP<|aS<|aA Z<|cC Z<|aC Z<|aK<|aP ?_;cases h;exact sV Z
def xM  (a:Unit):Option (Bool):=
 some (true)
def sK (U:Nat) (f:Int) (e:cB) (c:aT) (a:Int) (b:(Int)->Option (Bool)):Option (Bool):=
 if a<(List.length c:Int)then(ck (0<=a∧a<(List.length c:Int)) (Option.bind (q_ U f ((e.1,e.2)) a (at' c a)) λd=>(if(!d)=true then(some (false))else(b (wI .i64 (a+(1:Int)))))))else(xM  (()))
def uB (U:Nat) (c:Int) (a:cB) (b:aT):Option (Bool):=
 if(List.length b:Int)≠(List.length a.1:Int)then(some (false))else(bP (sK U c a b) U (0:Int))
theorem aah:aQ Tryz.prog 45:=Tryz.call45
theorem Ka (U:Nat) {g:Int} {i:cB} {j:aT} (b:Value)  (d:Value)  (s:mH)  (m:Value) (r:Bool) (h:uB U g i j=some r):
  bA Tryz.prog 45 #[vI (g),Value.agg #[b,d],m] [Sl bN b i.1,S2 aO d s i.2,Sl bN m j] (λx:Unit=>vB (r)) (λx l=>l) (λ_ l=>l):=by
 refine bA.of Tryz.func45 Z Tryz.ntmps45 Z λc=>?_;refine aS<|aG (aJ.box (cs:=[b,d]) Z Z) Z λo=>aC Z<|aK<|aI<|aS<|aA Z<|iH (aE.fact 2 Z) Z<|bX Z<|cJ 0 Z<|iH (aE.fact 0 Z) Z<|oT Z<|aK ?_;refine eZ h Z (λh=>?_) λh=>?_
 ·refine aS<|aC Z<|aK<|aP<|aH ?_;cases h;exact sV Z
 refine cE<|aI<|d_ (λe=>xM  e=some r) (λe p=>[]) (λe p=>[]) ?_ ?_
 ·refine aS<|aA Z<|iH (aE.fact 2 Z) Z<|aA Z<|aK<|aU<|eH (sK U g i j) (λf q=>[(0,vI (g)),(4,vP o),(15,m),(16,vI (List.length j:Int)),(17,vI (f))]) (λf q=>[bH o [b,d] 27]) (0:Int) () h SF (aY.refl _) ?_;intro u f q h;refine aS<|cP Z<|aK<|aI ?_;refine eZ h Z (λh=>?_) λh=>?_
  ·refine cE<|aI<|aU<|aS<|aA Z<|dK h λa h=>aB (aZ Z Z (aE.fact 2 Z) Z Z a) Z<|aB (bU Z (aE.fact 2 Z) Z Z Z cS a) Z<|aC Z<|aC Z<|aK<|aS<|aA Z<|dM 0 Z<|aA Z<|aA Z<|eL h λk n h=>aG (aJ.callQ Qq (CS U b d s k n) Z (lJ [0,1] Z)) Z λt=>aB (iZ Z) Z<|aK ?_;refine yC h Z (λ_ h=>?_) λ_ h=>?_
   ·refine aS<|aC Z<|aK<|aP<|bO<|aH<|aH<|bO<|aH ?_;cases h;exact sV Z
   refine dJ<|mP<|aR<|cO Z<|aA Z<|aK ?_;exact Ai (wI .i64 (f+(1:Int))) () h SF Z
  refine fE ?_;exact bT () (()) h SF .nil (aD.refl _ _)
 intro e p h;unfold xM at h;refine aS<|aC Z<|aK<|aP ?_;cases h;exact kM Z
def AJ  (a:eD):Option (Int):=
 if a.2≠(1:Int)then(some (-1:Int))else(some (a.1))
def sL (b:Int×Int×Int) (c:(Int×Int×Int)->Option (Int)) (a:eD):Option (Int):=
 c (a.1,a.2,(wI .i64 (b.2.2+(1:Int))))
def xN (c:aT) (d:Int) (a:Int×Int×Int) (b:(Int×Int×Int)->Option (Int)):Option (Int):=
 if a.2.2<(List.length c:Int)then(ck (0<=a.2.2∧a.2.2<(List.length c:Int)) (if(at' c a.2.2)=d then(sL a b (a.2.2,(wI .i64 (a.2.1+(1:Int)))))else(sL a b (a.1,a.2.1))))else(AJ  (a.1,a.2.1))
def uC (U:Nat) (a:aT) (b:Int):Option (Int):=
 bP (xN a b) U ((-1:Int),(0:Int),(0:Int))
theorem Xr:aQ Tryz.prog 117:=Tryz.call117
theorem Kb (U:Nat) {e:aT} {f:Int} (k:Value) (r:Int) (h:uC U e f=some r):
  bA Tryz.prog 117 #[k,vI (f)] [Sl bN k e] (λx:Unit=>vI (r)) (λx l=>l) (λ_ l=>l):=by
 refine bA.of Tryz.func117 Z Tryz.ntmps117 Z λc=>?_;unfold uC at h;refine aS<|aC Z<|aK<|aS<|aC Z<|aC Z<|aK<|aI<|d_ (λd=>AJ  d=some r) (λd n=>[(5,vI (d.1)),(6,vI (d.2))]) (λd n=>[]) ?_ ?_
 ·refine aS<|aA Z<|iH (aE.fact 0 Z) Z<|aA Z<|aK<|aU<|eH (xN e f) (λa g=>[(1,vI (f)),(5,vI (a.1)),(6,vI (a.2.1)),(9,k),(10,vI (List.length e:Int)),(11,vI (a.2.2))]) (λa g=>[]) ((-1:Int),(0:Int),(0:Int)) () h SF (aY.refl _) ?_;intro m a g h;refine aS<|cP Z<|aK<|aI ?_;refine eZ h Z (λh=>?_) λh=>?_
  ·refine cE<|aI<|d_ (λb=>sL a (bP (xN e f) m) b=some r) (λb i=>[(1,vI (f)),(5,vI (b.1)),(6,vI (b.2)),(9,k),(10,vI (List.length e:Int)),(11,vI (a.2.2))]) (λb i=>[]) ?_ ?_
   ·refine aU<|aS<|aA Z<|dK h λj h=>aB (aZ Z Z (aE.fact 0 Z) Z Z j) Z<|aB (bU Z (aE.fact 0 Z) Z Z Z cS j) Z<|aC Z<|aC Z<|aK<|aS<|aA Z<|aA Z<|cC Z<|aK ?_;refine eZ h Z (λh=>?_) λh=>?_
    ·refine aS<|aA Z<|aC Z<|aK<|aR<|aA Z<|cO Z<|aC Z<|fF<|mP ?_;exact iI (a.2.2,(wI .i64 (a.2.1+(1:Int)))) () h SF Z
    refine dJ<|mP ?_;exact iI (a.1,a.2.1) () h SF Z
   intro b i h;unfold sL at h;refine aR<|cO Z<|aA Z<|aK ?_;exact Ai (b.1,b.2,(wI .i64 (a.2.2+(1:Int)))) () h SF Z
  refine fE ?_;exact iI (a.1,a.2.1) () h SF Z
 intro d n h;refine aI<|aS<|aA Z<|oT Z<|aK ?_;refine eZ h Z (λh=>?_) λh=>?_
 ·refine aS<|aC Z<|aK<|aP<|aH ?_;cases h;exact kM Z
 refine cE<|aS<|aA Z<|aC Z<|aK<|aP ?_;cases h;exact kM Z
def yT  (a:b_):Option (b_×Bool):=
 some (a,true)
def yU (e:cB) (d:Int) (b:aT) (a:Int×b_) (c:(Int×b_)->Option (b_×Bool)):Option (b_×Bool):=
 if a.1<(List.length b:Int)then(ck (0<=a.1∧a.1<(List.length b:Int)) (ck (0<=d∧d<(List.length e.1:Int)) (ck (0<=a.1∧a.1<(List.length a.2:Int)) (c ((wI .i64 (a.1+(1:Int))),(List.set a.2 (Int.toNat a.1) ((at' e.1 d),(at' b a.1))))))))else(yT  (a.2))
def qZ (U:Nat) (b:cB) (a:aT):Option (b_×Bool):=
 Option.bind (uC U a (1:Int)) λd=>(if d<(0:Int)then(some (([]:b_),false))else(ck (0<=(List.length a:Int)∧(List.length a:Int)<=1099511627) (Option.bind (gM U ((b.1,b.2)) d) λc=>(bP (yU b d c) U ((0:Int),(List.replicate (Int.toNat (List.length a:Int)) ((0:Int),(0:Int))))))))
theorem aai:aQ Tryz.prog 47:=Tryz.call47
theorem HK (U:Nat) {d:cB} {u:aT} (q:Value)  (s:Value)  (A:mH)  (v:Value) (r:b_×Bool) (h:qZ U d u=some r):
  bA Tryz.prog 47 #[Value.agg #[q,s],v] [Sl bN q d.1,S2 aO s A d.2,Sl bN v u] (λx:Value=>Value.tuple #[x,vB (r.2)]) (λx l=>Ar bS x r.1::l) (λ_ l=>l):=by
 refine bA.of Tryz.func47 Z Tryz.ntmps47 Z λc=>?_;refine aS<|aG (aJ.box (cs:=[q,s]) Z Z) Z λz=>aC Z<|aC Z<|aK<|aS<|aA Z<|eL h λf D h=>aG (aJ.callQ Xr (Kb U v f D) Z (lJ [2] Z)) Z λF=>aC Z<|aK<|aI<|aS<|aA Z<|cP Z<|aK ?_;refine eZ h Z (λh=>?_) λh=>?_
 ·refine aS<|aC Z<|aC Z<|aK<|aP<|aH<|jY (f_ bS) ?_;cases h;exact gZ (lS) Z Z (RV.tmp Z) (RV.tmp Z) (aY.ix [0] Z Z) aD.nil
 refine cE<|aS<|aA Z<|iH (aE.fact 2 Z) Z<|dK h λB h=>aG (sD (e:=bS) (((0:Int),(0:Int))) Z Z Z Z B Z Z Z) Z λp=>aC Z<|aK<|aI<|d_ (λg=>yT  g=some r) (λg i=>[(7,p)]) (λg i=>[Ar bS p g]) ?_ ?_
 ·refine aS<|dM 1 Z<|aA Z<|eL h λb y h=>aG (aJ.callQ Ur (Br U q s A b y) Z (lJ [0,1] Z)) Z λt=>aB (fG Z (aX (aE.res 0 Z) cU) Z) Z<|aA Z<|aK<|aU<|eH (yU d f b) (λa j=>[(2,vP z),(6,vI (f)),(7,p),(19,t),(20,vI (List.length b:Int)),(21,vI (a.1))]) (λa j=>[Ar cM t b,Ar bS p a.2,bH z [q,s] 27]) ((0:Int),(List.replicate (Int.toNat (List.length u:Int)) ((0:Int),(0:Int)))) () h SF (aY.refl _) ?_;intro C a j h;refine aS<|cP Z<|aK<|aI ?_;refine eZ h Z (λh=>?_) λh=>?_
  ·refine cE<|aI<|aU<|aS<|aA Z<|dK h λk h=>aB (aZ Z Z (aX (aE.res 0 Z) cU) Z Z k) Z<|aB (bU Z (aX (aE.res 0 Z) cU) Z Z Z cS k) Z<|aC Z<|aC Z<|aK<|aR<|aA Z<|aA Z<|bX Z<|cJ 2 Z<|aA Z<|dK h λm h=>aB (aZ Z Z (aE.fact 0 Z) Z Z m) Z<|aB (bU Z (aE.fact 0 Z) Z Z Z cS m) Z<|aA Z ?_;refine aB (Cm (r:=Value.agg #[vI (at' d.1 f),vI (at' b a.1)]) Z Z (by intro w;simp[Instr.build,Instr.fill,eP,dV,dH,eQ,eR,dW,fS])) Z<|dK h λn h=>aB (aZ Z Z (aX (aE.res 1 Z) bB) Z Z n) Z<|Ld (Hh (us:=[vI (at' d.1 f),vI (at' b a.1)]) (o:=0) 1 (((at' d.1 f),(at' b a.1))) n Z Z Z Z Z Z Z Z Z Z) λE=>fF<|mP<|aR<|cO Z<|aA Z<|aK ?_;exact Ai ((wI .i64 (a.1+(1:Int))),(List.set a.2 (Int.toNat a.1) ((at' d.1 f),(at' b a.1)))) () h SF Z
  refine fE ?_;exact bT (a.2) () h SF (aY.ix [1] Z Z) (aD.refl _ _)
 intro g i h;unfold yT at h;refine aS<|aA Z<|aC Z<|aC Z<|aK<|aP ?_;cases h;exact gZ (p) Z Z (RV.tmp Z) (RV.tmp Z) (aY.refl _) aD.nil
def sN (U:Nat) (a:Int) (b:cB) (e:aT):Option (b_×Int):=
 Option.bind (iF U ((b.1,b.2))) λf=>(if(!f)=true then(some (([]:b_),(1:Int)))else(Option.bind (sO U a) λg=>(if(!g)=true then(some (([]:b_),(2:Int)))else(Option.bind (uB U a ((b.1,b.2)) e) λd=>(if(!d)=true then(some (([]:b_),(7:Int)))else(ck (0<=(wI .i64 (a - (1:Int)))∧(wI .i64 (a - (1:Int)))<((4:Nat):Int)) (if wI .i64 (a - (1:Int))=(0:Int)then(none)else(if wI .i64 (a - (1:Int))=(1:Int)then(Option.bind (qZ U ((b.1,b.2)) e) λc=>(if(!c.2)=true then(some (([]:b_),(7:Int)))else(some (c.1,(0:Int)))))else(if wI .i64 (a - (1:Int))=(2:Int)then(none)else(none))))))))))
theorem ZZ:aQ Tryz.prog 13:=Tryz.call13
theorem JD (U:Nat) {g:Int} {m:cB} {s:aT} (e:Value)  (f:Value)  (k:mH)  (i:Value) (r:b_×Int) (h:sN U g m s=some r):
  bA Tryz.prog 13 #[vI (g),Value.agg #[e,f],i] [Sl bN e m.1,S2 aO f k m.2,Sl bN i s] (λx:Value=>Value.tuple #[x,vI (r.2)]) (λx l=>Ar bS x r.1::l) (λ_ l=>l):=by
 refine bA.of Tryz.func13 Z Tryz.ntmps13 Z λc=>?_;refine aS<|aG (aJ.box (cs:=[e,f]) Z Z) Z λC=>aC Z<|aC Z<|aK<|aI<|aS<|dM 0 Z<|eL h λv z h=>aG (aJ.callQ Us (Bq U e f k v z) Z (lJ [0,1] Z)) Z λD=>aB (iZ Z) Z<|aK ?_;refine yC h Z (λ_ h=>?_) λ_ h=>?_
 ·refine aS<|aC Z<|aC Z<|aK<|aP<|aH<|jY (f_ bS) ?_;cases h;exact gZ (lS) Z Z (RV.tmp Z) (RV.tmp Z) (aY.ix [0] Z Z) aD.nil
 refine cE<|aI<|aS<|aA Z<|eL h λy A h=>aG (aJ.callQ Ut (DC U  y A) Z .nil) Z λE=>aB (iZ Z) Z<|aK ?_;refine yC h Z (λ_ h=>?_) λ_ h=>?_
 ·refine aS<|aC Z<|aC Z<|aK<|aP<|aH<|jY (f_ bS) ?_;cases h;exact gZ (lS) Z Z (RV.tmp Z) (RV.tmp Z) (aY.ix [0] Z Z) aD.nil
 refine cE<|aI<|aS<|aA Z<|dM 0 Z<|aA Z<|eL h λn p h=>aG (aJ.callQ aah (Ka U e f k i n p) Z (lJ [0,1,2] Z)) Z λB=>aB (iZ Z) Z<|aK ?_;refine yC h Z (λ_ h=>?_) λ_ h=>?_
 ·refine aS<|aC Z<|aC Z<|aK<|aP<|aH<|jY (f_ bS) ?_;cases h;exact gZ (lS) Z Z (RV.tmp Z) (RV.tmp Z) (aY.ix [0] Z Z) aD.nil
 refine cE<|aS ?_;refine aB (T_ (r:=Value.agg #[Value.func (.func 46) #[] #[],Value.func (.func 47) #[] #[],Value.func (.func 48) #[] #[],Value.func (.func 49) #[] #[]]) Z Z Z Z (by intro w;simp[Instr.build,Instr.fill,eP,dV,dH,eQ,eR,dW,fS])) Z ?_;refine aG (aJ.alloc (cs:=[Value.nilFunc,Value.nilFunc,Value.nilFunc,Value.nilFunc]) Z Z) Z λt=>bR 0 (vs:=[Value.func (.func 46) #[] #[],Value.func (.func 47) #[] #[],Value.func (.func 48) #[] #[],Value.func (.func 49) #[] #[]]) Z Z Z Z Z Z<|aK<|aI ?_;refine JR.start [0,1,3,7,0,0,63,127,255,255,511,2047] 11 mixedOrders (by decide +kernel) ?_;refine JR.open (by exact rfl) ?_;refine bE Z<|fY Z (mJ Z Z)<|dK h λu h=>?_;by_cases a:wI .i64 (g - (1:Int))=(0:Int)
 ·have h:=Ie a h;refine fY Z (Bg 0 Z Z Z Z Z a Z)<|dY 0 Z<|hZ 1 Z<|bE Z ?_;cases h
 have h:=SH a h;by_cases b:wI .i64 (g - (1:Int))=(1:Int)
 ·have h:=Ie b h;refine fY Z (Bg 1 Z Z Z Z Z b Z)<|dY 0 Z<|hZ 1 Z<|bE Z<|eL h λo q h=>JR.loud Z Z Z (fQ (vs:=[Value.agg #[e,f],i]) (cs:=[]) aai Z (HK U e f k i o q) Z (lJ [0,1,2] Z) (λ_ _=>rfl)) Z (λj=>(jV [] Z)) λj=>fY Z (fC Z)<|fY Z (gA Z Z)<|fY Z (gA Z Z)<|fY Z (tY Z)<|bK 11 Z Z<|aC Z<|aK<|aI<|aS<|aA Z<|aB (iZ Z) Z<|aK ?_;refine yC h Z (λ_ h=>?_) λ_ h=>?_
  ·refine aS<|aC Z<|aC Z<|aK<|aP<|aH<|jY (f_ bS) ?_;cases h;exact gZ (lS) Z Z (RV.tmp Z) (RV.tmp Z) (aY.ix [0] Z Z) aD.nil
  refine cE<|aS<|aA Z<|aC Z<|aC Z<|aK<|aP ?_;cases h;exact gZ (j) Z Z (RV.tmp Z) (RV.tmp Z) (aY.ix [0] Z Z) aD.nil
 have h:=SH b h;by_cases d:wI .i64 (g - (1:Int))=(2:Int)
 ·have h:=Ie d h;refine fY Z (Bg 2 Z Z Z Z Z d Z)<|dY 0 Z<|hZ 1 Z<|bE Z ?_;cases h
 have h:=SH d h;refine fY Z (Bg 3 Z Z Z Z Z (by omega) Z) ?_;refine dY 0 Z<|hZ 1 Z<|bE Z ?_;cases h
def fD (U:Nat) (a:eD) (b:Int):Option (Bool):=
 some (decide (a.1=b))
theorem HW:aQ Tryz.prog 193:=Tryz.call193
theorem qM (U:Nat) {b:eD} {d:Int} (a:Nat) (r:Bool) (h:fD U b d=some r):
  bA Tryz.prog 193 #[Value.agg #[vI (b.1),vI (b.2)],vP a] [bH a [vI (d)] 3] (λx:Unit=>vB (r)) (λx l=>l) (λ_ l=>l):=by
 refine bA.of Tryz.func193 Z Tryz.ntmps193 Z λc=>?_;unfold fD at h;refine aS<|aG (aJ.box (cs:=[vI (b.1),vI (b.2)]) Z Z) Z λe=>aC Z<|aK<|aS ?_;refine aB (iV (i:=0) Z Z Z Z Z (by decide)) Z ?_;refine cJ 0 Z<|aB (dC Z (aE.fact 0 Z) Z Z Z) Z<|cC Z<|aC Z<|aK<|aP ?_;cases h;exact sV Z
def kW (U:Nat) (a:eD) (b:Int):Option (Bool):=
 some (decide (a.2=(wI .i64 (b - (1:Int)))))
theorem Qv:aQ Tryz.prog 194:=Tryz.call194
theorem AV (U:Nat) {b:eD} {d:Int} (a:Nat) (r:Bool) (h:kW U b d=some r):
  bA Tryz.prog 194 #[Value.agg #[vI (b.1),vI (b.2)],vP a] [bH a [vI (d)] 3] (λx:Unit=>vB (r)) (λx l=>l) (λ_ l=>l):=by
 refine bA.of Tryz.func194 Z Tryz.ntmps194 Z λc=>?_;unfold kW at h;refine aS<|aG (aJ.box (cs:=[vI (b.1),vI (b.2)]) Z Z) Z λe=>aC Z<|aK<|aS ?_;refine aB (iV (i:=1) Z Z Z Z Z (by decide)) Z ?_;refine cJ 0 Z<|aB (dC Z (aE.fact 0 Z) Z Z Z) Z<|aB (mJ Z Z) Z<|cC Z<|aC Z<|aK<|aP ?_;cases h;exact sV Z
def wK (U:Nat) (a:eD) (b:Int):Option (Bool):=
 some (decide (a.1=(wI .i64 ((1:Int) - b))))
theorem XD:aQ Tryz.prog 195:=Tryz.call195
theorem Ff (U:Nat) {b:eD} {d:Int} (a:Nat) (r:Bool) (h:wK U b d=some r):
  bA Tryz.prog 195 #[Value.agg #[vI (b.1),vI (b.2)],vP a] [bH a [vI (d)] 3] (λx:Unit=>vB (r)) (λx l=>l) (λ_ l=>l):=by
 refine bA.of Tryz.func195 Z Tryz.ntmps195 Z λc=>?_;unfold wK at h;refine aS<|aG (aJ.box (cs:=[vI (b.1),vI (b.2)]) Z Z) Z λe=>aC Z<|aK<|aS ?_;refine aB (iV (i:=0) Z Z Z Z Z (by decide)) Z ?_;refine cJ 0 Z<|aB (dC Z (aE.fact 0 Z) Z Z Z) Z<|aB (mJ Z Z) Z<|cC Z<|aC Z<|aK<|aP ?_;cases h;exact sV Z
def pB  (a:Bool):Option (Bool):=
 some (a)
def AL (U:Nat) (a:eD) (b:Int):Option (Bool):=
 if b=(1:Int)then(pB  (true))else(pB  (decide (a.1=(1:Int))))
theorem XE:aQ Tryz.prog 196:=Tryz.call196
theorem Fg (U:Nat) {a:eD} {f:Int} (d:Nat) (r:Bool) (h:AL U a f=some r):
  bA Tryz.prog 196 #[Value.agg #[vI (a.1),vI (a.2)],vP d] [bH d [vI (f)] 3] (λx:Unit=>vB (r)) (λx l=>l) (λ_ l=>l):=by
 refine bA.of Tryz.func196 Z Tryz.ntmps196 Z λc=>?_;refine aS<|aG (aJ.box (cs:=[vI (a.1),vI (a.2)]) Z Z) Z λg=>aC Z<|aK<|aI<|d_ (λb=>pB  b=some r) (λb e=>[(3,vB (b))]) (λb e=>[]) ?_ ?_
 ·refine aR<|aB (dC Z (aE.fact 0 Z) Z Z Z) Z<|cC Z<|aA Z ?_;refine Cd h Z (λ_ h=>?_) λ_ h=>?_
  ·refine aL Z<|aL Z<|aL Z<|dU Z<|aC Z<|aK ?_;exact bT (true) () h SF .nil (aD.refl _ _)
  refine aV Z (iV (i:=0) Z Z Z Z Z (by decide)) Z ?_;refine aV Z (cK 0 Z Z Z Z Z) Z<|aV Z (De Z Z) Z<|e_ Z<|aC Z<|aK ?_;exact bT (decide (a.1=(1:Int))) () h SF .nil (aD.refl _ _)
 intro b e h;unfold pB at h;refine aP ?_;cases h;exact kM Z
end Go.Proofs.YtjkjpdonlpdcaaaGreatDoor