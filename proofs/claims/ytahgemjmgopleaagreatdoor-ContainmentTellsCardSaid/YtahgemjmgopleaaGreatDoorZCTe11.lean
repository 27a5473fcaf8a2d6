/- Models and proofs. Conditions: none. -/
import Derived.Test.YtahgemjmgopleaaGreatDoorZCTe5
import Derived.Test.YtahgemjmgopleaaGreatDoorZCTe10
import Derived.Test.YtahgemjmgopleaaGreatDoorZCTe9
import Derived.Test.YtahgemjmgopleaaGreatDoorZCTe2
import Derived.Test.YtahgemjmgopleaaGreatDoorZCTe6
import Derived.Test.YtahgemjmgopleaaGreatDoorZCTe1
import Derived.OpenShut
import Derived.LaidLaws
import Derived.LaidHandle
import Derived.Lay
import Derived.MakeChecks
set_option linter.unusedVariables false
set_option linter.unusedSimpArgs false
set_option maxHeartbeats 4000000
set_option maxRecDepth 20000
namespace Go.Proofs.YtahgemjmgopleaaGreatDoor
open Go.Sx
def v_ (b:VQ) (a:eL):Option MQ:=
 some (((a.1,a.2,b.1.2.2.2.2.1,b.1.2.2.2.2.2.2.1,(decide ((at' b.1.2.1 (wI .i64 ((b.1.2.1.length:Int) - (1:Int))))=(0:Int))),b.1.2.2.1)),(0:Int))
def rT (d:aX) (a:Int×Int×Int) (b:(Int×Int×Int)->Option MQ) (c:Int):Option MQ:=
 b ((wI .i64 (a.1+(1:Int))),c,(max a.2.2 (at' d a.1)))
def nZ (d:VQ) (b:aX) (a:Int×Int×Int) (c:(Int×Int×Int)->Option MQ):Option MQ:=
 if a.1<(b.length:Int)then(ck (0<=a.1∧a.1<(b.length:Int)) (ck (0<=a.1∧a.1<(b.length:Int)) (if(0:Int)<(at' b a.1)then(ck (0<=(wI .u64 a.1)) (rT b a c (Fx .u32 a.2.1 (zE .u32 (1:Int) (wI .u64 a.1)))))else(rT b a c (a.2.1)))))else(v_ d (a.2.1,a.2.2))
def gS (U:Nat) (b:jC) (d:cW) (e:Int) (f:bO) (g:aX):Option MQ:=
 Option.bind (iO U ((b.1,b.2.1,b.2.2)) ((d.1,d.2)) e f g) λa=>(if a.2≠(0:Int)then(some ((((0:Int),(0:Int),(0:Int),(0:Int),false,([]:bO))),a.2))else(ck (0<=(wI .i64 ((a.1.2.1.length:Int) - (1:Int)))∧(wI .i64 ((a.1.2.1.length:Int) - (1:Int)))<(a.1.2.1.length:Int)) (Option.bind (xC U ((a.1.1,a.1.2.1,a.1.2.2.1,((a.1.2.2.2.1,a.1.2.2.2.2.1,a.1.2.2.2.2.2.1,a.1.2.2.2.2.2.2.1,a.1.2.2.2.2.2.2.2))))) λc=>(bK (nZ a c) U ((0:Int),(0:Int),(0:Int))))))
theorem Ym:aV Tryz.prog 15:=Tryz.call15
theorem Fq (U:Nat) {o:jC} {L:cW} {P:Int} {Q:bO} {R:aX} (D:Value)  (E:Value)  (F:Value)  (G:Value)  (S:iX)  (M:Value)  (T:lU)  (N:Value) (r:(Int×Int×Int×Int×Bool×bO)×Int) (h:gS U o L P Q R=some r):
  aW Tryz.prog 15 #[Value.agg #[vS (o.1),D,E],Value.agg #[F,G],vI (P),M,N] [Sl aP D o.2.1,Sl aJ E o.2.2,PF (Value.agg #[vS o.1,D,E]),Sl bX F L.1,S2 bD G S L.2,S2 bX M T Q,Sl wR N R] (λx:Fu=>Value.tuple #[Value.agg #[vU (r.1.1),vI (r.1.2.1),vI (r.1.2.2.1),vI (r.1.2.2.2.1),vB (r.1.2.2.2.2.1),x.1],vI (r.2)]) (λx l=>Ar fE.raw x.1 x.2::k_ cS x.2 r.1.2.2.2.2.2::l) (λ_ l=>l):=by
 refine aW.of Tryz.func15 Z Tryz.ntmps15 Z λc=>?_;refine aR<|aH (aN.box (cs:=[vS (o.1),D,E]) Z Z) Z λW=>aH (aN.box (cs:=[F,G]) Z Z) Z λX=>aH (aN.alloc (cs:=vD2) Z Z) Z λn=>aB Z<|aL<|aR<|cM 2 Z<|cM 1 Z<|aA Z<|aA Z<|aA Z<|dZ h λa V h=>aH (zBg aer (ME U D E F G S M T N a V) Z (jP [0,1,2,3,4,5,6] Z)) Z λd=>aA Z<|eQ Z<|eQ Z<|aH (aN.alloc (cs:=FC) Z Z) Z λY=>bE (Know.one ((aT (aD.res 1 Z) cP))) λH=>bE (Know.one ((aT (aD.res 2 Z) cP))) λI=>bE (Know.one (aD.sl (bB (i:=3) (j:=4) Z Z dD))) λt=>bF 0 (vs:=[d.1,d.2.1,d.2.2.1,vI (a.1.2.2.2.1),vI (a.1.2.2.2.2.1),vI (a.1.2.2.2.2.2.1),vI (a.1.2.2.2.2.2.2.1),vU (a.1.2.2.2.2.2.2.2)]) Z Z (bR H (bR I (bR t (bR Z (bR Z (bR Z (bR Z (bR Z Z)))))))) Z Z Z<|aB Z<|aL<|aK<|aR<|aA Z<|jQ Z<|aL ?_;refine d_ h Z (λh=>?_) λh=>?_
 ·refine aR ?_;refine aC (Cv (r:=Value.agg #[vU (0:Int),vI (0:Int),vI (0:Int),vI (0:Int),vB (false),lL]) (by intro w;simp[Instr.build,Instr.fill,cT,b_,bW,cU,cV,cA,dJ])) Z ?_;refine aA Z<|bF 5 (vs:=vD2) Z Z Z Z Z Z<|aB Z<|aL<|aQ<|aI<|gF (cK fE.raw) (gF (mD cS) ?_);cases h;exact eD ((lL),([]:gV)) Z Z (RV.cell 7 Z Z Z Z) (RV.tmp Z) (bA.ix [1,0] Z Z) aG.nil
 refine cE<|aK ?_;refine JR.start [0,1,3,0,8,24,0,64,0,256,768,1792,4032,8128,16320,0,32768,131071,0,524287] 19 mixedOrders (by decide +kernel) ?_;refine zBj (by exact rfl) ?_;refine cB Z<|cB Z<|fD 0 Z<|cB Z<|cB Z<|fD 0 Z<|cB Z<|fD 0 Z<|cB Z<|fD 0 Z<|bM Z (bA.cons 2 Z .nil) .nil (fX Z (aT (aD.res 0 Z) cP) Z) aU.z<|iY Z (lO Z Z)<|dW h λA h=>bM Z (bA.cons 2 Z .nil) .nil (a_ Z Z (aT (aD.res 0 Z) cP) Z Z A) aU.z<|bM Z (bA.cons 2 Z .nil) .nil (bY Z (aT (aD.res 0 Z) cP) Z Z Z AI A) aU.z<|iY Z (Cy Z Z)<|cB Z<|fD 0 Z<|gG (Know.one (aD.sl (bB (i:=3) (j:=4) Z Z dD))) λu=>?_;refine iY Z (BQ (r:=Value.agg #[vU (0:Int),vI (0:Int),vI (a.1.2.2.2.2.1),vI (a.1.2.2.2.2.2.2.1),vB (decide ((at' a.1.2.1 (wI .i64 ((a.1.2.1.length:Int) - (1:Int))))=(0:Int))),d.2.2.1]) Z Z Z Z (by intro w;simp[Instr.build,Instr.fill,cT,b_,bW,cU,cV,cA,dJ,cI u])) ?_;refine zBh Z Z Z (aN.alloc (cs:=vD2) Z Z) Z (λg=>(kG [([1],[]),([3],[]),([3],[]),([3],[]),([1],[]),([1],[]),([1],[]),([1],[])] Z)) λg=>bP 19 Z Z<|bE (Know.one (aD.sl (bB (i:=4) (j:=5) Z Z dD))) λv=>bF 0 (vs:=[vU (0:Int),vI (0:Int),vI (a.1.2.2.2.2.1),vI (a.1.2.2.2.2.2.2.1),vB (decide ((at' a.1.2.1 (wI .i64 ((a.1.2.1.length:Int) - (1:Int))))=(0:Int))),d.2.2.1]) Z Z (bR Z (bR Z (bR Z (bR Z (bR Z (bR v Z)))))) Z Z Z<|aL<|aR<|cM 1 Z<|dZ h λf O h=>aH (zBg aes (NA U d.1 d.2.1 d.2.2.1 (List.zip d.2.2.2 a.1.2.2.1) f O) Z (aG.cons (aT (aD.res 2 Z) cP) (aG.cons (aT (aD.res 3 Z) cP) (aG.cons (bB (i:=4) (j:=5) Z Z dD) .nil)))) Z λm=>aB Z<|aL<|aK<|dK (λe=>v_ a e=some r) (λe p=>[(10,vP n),(14,vP g)]) (λe p=>[cJ g [vU (e.1),vI (e.2),vI (a.1.2.2.2.2.1),vI (a.1.2.2.2.2.2.2.1),vB (decide ((at' a.1.2.1 (wI .i64 ((a.1.2.1.length:Int) - (1:Int))))=(0:Int))),d.2.2.1] 43,Ar fE.raw d.2.2.1 d.2.2.2,k_ cS d.2.2.2 a.1.2.2.1,cJ n vD2 43]) ?_ ?_
 ·refine aR<|aB Z<|aL<|aS<|eB (nZ a f) (λb q=>[(10,vP n),(14,vP g),(15,m),(16,vI (b.1))]) (λb q=>[Ar cS m f,cJ g [vU (b.2.1),vI (b.2.2),vI (a.1.2.2.2.2.1),vI (a.1.2.2.2.2.2.2.1),vB (decide ((at' a.1.2.1 (wI .i64 ((a.1.2.1.length:Int) - (1:Int))))=(0:Int))),d.2.2.1] 43,Ar fE.raw d.2.2.1 d.2.2.2,k_ cS d.2.2.2 a.1.2.2.1,cJ n vD2 43]) ((0:Int),(0:Int),(0:Int)) () h SF (bA.ix [0,1,5,6,7] Z Z) ?_;intro K b q h;refine aK<|aR<|aA Z<|aA Z<|aC (fX Z (aT (aD.res 0 Z) dD) Z) Z<|cZ Z<|aL ?_;refine d_ h Z (λh=>?_) λh=>?_
  ·refine cE<|aK<|dK (λk=>rT f b (bK (nZ a f) K) k=some r) (λk s=>[(10,vP n),(14,vP g),(15,m),(16,vI (b.1))]) (λk s=>[Ar cS m f,cJ g [vU (k),vI (max b.2.2 (at' f b.1)),vI (a.1.2.2.2.2.1),vI (a.1.2.2.2.2.2.2.1),vB (decide ((at' a.1.2.1 (wI .i64 ((a.1.2.1.length:Int) - (1:Int))))=(0:Int))),d.2.2.1] 43,Ar fE.raw d.2.2.1 d.2.2.2,k_ cS d.2.2.2 a.1.2.2.1,cJ n vD2 43]) ?_ ?_
   ·refine aS<|aK ?_;refine JR.start [0,1,0,0,12,28,63,127,255] 6 mixedOrders (by decide +kernel) ?_;refine zBj (by exact rfl) ?_;refine cB Z<|fD 1 Z<|aY Z<|aY Z<|dW h λB h=>bM Z (bA.cons 0 Z .nil) .nil (a_ Z Z (aT (aD.res 0 Z) dD) Z Z B) aU.z<|bM Z (bA.cons 0 Z .nil) .nil (bY Z (aT (aD.res 0 Z) dD) Z Z Z eH B) aU.z<|bP 6 Z Z<|aC (DZ Z Z) Z<|bN Z<|gJ 1 Z Z Z Z Z Z<|aL<|aR<|aA Z<|aA Z<|dW h λC h=>aC (a_ Z Z (aT (aD.res 0 Z) dD) Z Z C) Z<|aC (bY Z (aT (aD.res 0 Z) dD) Z Z Z eH C) Z<|aC (uE Z Z) Z<|aL ?_;refine d_ h Z (λh=>?_) λh=>?_
    ·refine aO<|bN Z<|dL 1 Z<|aA Z<|aC (Cw Z Z Z) Z<|dW h λJ h=>aC (FL Z Z J) Z<|aC (Kr Z Z) Z<|bN Z<|gJ 1 Z Z Z Z Z Z<|eN<|jH ?_;exact eW (Fx .u32 b.2.1 (zE .u32 (1:Int) (wI .u64 b.1))) () h SF Z
    refine dM<|jH ?_;exact eW (b.2.1) () h SF Z
   intro k s h;unfold rT at h;refine aO<|aA Z<|cD Z<|aB Z<|aL ?_;exact tV ((wI .i64 (b.1+(1:Int))),k,(max b.2.2 (at' f b.1))) () h SF Z
  refine eS ?_;exact bU (b.2.1,b.2.2) () h SF (bA.ix [1,2,3,4] Z Z) (aG.refl _ _)
 intro e p h;unfold v_ at h;refine aR<|cM 0 Z<|bE (Know.one (aD.sl (bB (i:=1) (j:=2) Z Z dD))) λy=>bF 3 (vs:=[vU (e.1),vI (e.2),vI (a.1.2.2.2.2.1),vI (a.1.2.2.2.2.2.2.1),vB (decide ((at' a.1.2.1 (wI .i64 ((a.1.2.1.length:Int) - (1:Int))))=(0:Int))),d.2.2.1]) Z Z (bR Z (bR Z (bR Z (bR Z (bR Z (bR y Z)))))) Z Z Z<|aB Z<|aL<|aQ ?_;cases h;exact eD (d.2.2.1,d.2.2.2) Z Z (RV.cell 3 Z Z Z Z) (RV.tmp Z) (bA.ix [1,2] Z Z) aG.nil
def jG (U:Nat) (c:jC) (d:cW) (e:Int) (f:bO) (g:aX):Option MQ:=
 Option.bind (iC U ((c.1,c.2.1,c.2.2)) ((d.1,d.2)) e f g) λa=>(if a.2≠(0:Int)then(some ((((0:Int),(0:Int),(0:Int),(0:Int),false,([]:bO))),a.2))else(Option.bind (gX U ((a.1.1,a.1.2.1,a.1.2.2.1,((a.1.2.2.2.1,a.1.2.2.2.2.1,a.1.2.2.2.2.2.1,a.1.2.2.2.2.2.2.1,a.1.2.2.2.2.2.2.2))))) λb=>(ck (0<=(wI .i64 ((a.1.2.1.length:Int) - (1:Int)))∧(wI .i64 ((a.1.2.1.length:Int) - (1:Int)))<(a.1.2.1.length:Int)) (some (((b.1,b.2,a.1.2.2.2.2.1,a.1.2.2.2.2.2.2.1,(decide ((at' a.1.2.1 (wI .i64 ((a.1.2.1.length:Int) - (1:Int))))=(0:Int))),a.1.2.2.1)),(0:Int))))))
theorem aek:aV Tryz.prog 14:=Tryz.call14
theorem FA (U:Nat) {e:jC} {u:cW} {B:Int} {C:bO} {D:aX} (n:Value)  (o:Value)  (p:Value)  (q:Value)  (E:iX)  (v:Value)  (F:lU)  (y:Value) (r:(Int×Int×Int×Int×Bool×bO)×Int) (h:jG U e u B C D=some r):
  aW Tryz.prog 14 #[Value.agg #[vS (e.1),n,o],Value.agg #[p,q],vI (B),v,y] [Sl aP n e.2.1,Sl aJ o e.2.2,PF (Value.agg #[vS e.1,n,o]),Sl bX p u.1,S2 bD q E u.2,S2 bX v F C,Sl wR y D,Gb 0 (cellsOf J_ Au)] (λx:Fu=>Value.tuple #[Value.agg #[vU (r.1.1),vI (r.1.2.1),vI (r.1.2.2.1),vI (r.1.2.2.2.1),vB (r.1.2.2.2.2.1),x.1],vI (r.2)]) (λx l=>Ar fE.raw x.1 x.2::k_ cS x.2 r.1.2.2.2.2.2::l) (λ_ l=>l):=by
 refine aW.of Tryz.func14 Z Tryz.ntmps14 Z λc=>?_;refine aR<|aH (aN.box (cs:=[vS (e.1),n,o]) Z Z) Z λI=>aH (aN.box (cs:=[p,q]) Z Z) Z λJ=>aH (aN.alloc (cs:=vD2) Z Z) Z λK=>aB Z<|aL<|aR<|cM 2 Z<|cM 1 Z<|aA Z<|aA Z<|aA Z<|dZ h λa G h=>aH (zBg Yo (Jb U n o p q E v F y a G) Z (jP [0,1,2,3,4,5,6,7] Z)) Z λd=>aA Z<|eQ Z<|eQ Z<|aH (aN.alloc (cs:=FC) Z Z) Z λL=>bE (Know.one ((aT (aD.res 1 Z) cP))) λs=>bE (Know.one ((aT (aD.res 2 Z) cP))) λt=>bE (Know.one (aD.sl (bB (i:=3) (j:=4) Z Z dD))) λf=>bF 0 (vs:=[d.1,d.2.1,d.2.2.1,vI (a.1.2.2.2.1),vI (a.1.2.2.2.2.1),vI (a.1.2.2.2.2.2.1),vI (a.1.2.2.2.2.2.2.1),vU (a.1.2.2.2.2.2.2.2)]) Z Z (bR s (bR t (bR f (bR Z (bR Z (bR Z (bR Z (bR Z Z)))))))) Z Z Z<|aB Z<|aL<|aK<|aR<|aA Z<|jQ Z<|aL ?_;refine d_ h Z (λh=>?_) λh=>?_
 ·refine aR ?_;refine aC (Cv (r:=Value.agg #[vU (0:Int),vI (0:Int),vI (0:Int),vI (0:Int),vB (false),lL]) (by intro w;simp[Instr.build,Instr.fill,cT,b_,bW,cU,cV,cA,dJ])) Z ?_;refine aA Z<|bF 5 (vs:=vD2) Z Z Z Z Z Z<|aB Z<|aL<|aQ<|aI<|gF (cK fE.raw) (gF (mD cS) ?_);cases h;exact eD ((lL),([]:gV)) Z Z (RV.cell 7 Z Z Z Z) (RV.tmp Z) (bA.ix [1,0] Z Z) aG.nil
 refine cE<|aR<|cM 0 Z<|dZ h λb A h=>aH (zBg Yr (Cc U d.1 d.2.1 d.2.2.1 (List.zip d.2.2.2 a.1.2.2.1) b A) Z (aG.cons (aT (aD.res 1 Z) cP) (aG.cons (aT (aD.res 2 Z) cP) (aG.cons (bB (i:=3) (j:=4) Z Z dD) .nil)))) Z λH=>aA Z<|eQ Z<|eQ Z<|aB Z<|aB Z<|aL<|aK ?_;refine JR.start [0,0,0,4,12,0,32,96,0,256,0,1024,3072,7168,16128,32512,65280,0,131072,524287,1048575,2097151] 19 mixedOrders (by decide +kernel) ?_;refine zBj (by exact rfl) ?_;refine aY Z<|aY Z<|cB Z<|cB Z<|fD 0 Z<|cB Z<|cB Z<|fD 0 Z<|cB Z<|fD 0 Z<|cB Z<|fD 0 Z<|bM Z (bA.cons 2 Z .nil) .nil (fX Z (aT (aD.res 0 Z) cP) Z) aU.z<|iY Z (lO Z Z)<|dW h λm h=>bM Z (bA.cons 2 Z .nil) .nil (a_ Z Z (aT (aD.res 0 Z) cP) Z Z m) aU.z<|bM Z (bA.cons 2 Z .nil) .nil (bY Z (aT (aD.res 0 Z) cP) Z Z Z AI m) aU.z<|iY Z (Cy Z Z)<|cB Z<|fD 0 Z<|bP 19 Z Z<|bE (Know.one (aD.sl (bB (i:=3) (j:=4) Z Z dD))) λg=>?_;refine aC (Y.bld6 (r:=Value.agg #[vU (b.1),vI (b.2),vI (a.1.2.2.2.2.1),vI (a.1.2.2.2.2.2.2.1),vB (decide ((at' a.1.2.1 (wI .i64 ((a.1.2.1.length:Int) - (1:Int))))=(0:Int))),d.2.2.1]) Z Z Z Z Z Z (by intro w;simp[Instr.build,Instr.fill,cT,b_,bW,cU,cV,cA,dJ,cI g])) Z ?_;refine bE (Know.one (aD.sl (bB (i:=3) (j:=4) Z Z dD))) λk=>bF 5 (vs:=[vU (b.1),vI (b.2),vI (a.1.2.2.2.2.1),vI (a.1.2.2.2.2.2.2.1),vB (decide ((at' a.1.2.1 (wI .i64 ((a.1.2.1.length:Int) - (1:Int))))=(0:Int))),d.2.2.1]) Z Z (bR Z (bR Z (bR Z (bR Z (bR Z (bR k Z)))))) Z Z Z<|aB Z<|aL<|aQ ?_;cases h;exact eD (d.2.2.1,d.2.2.2) Z Z (RV.cell 5 Z Z Z Z) (RV.tmp Z) (bA.ix [3,4] Z Z) aG.nil
end Go.Proofs.YtahgemjmgopleaaGreatDoor
namespace Go.Proofs.YtahgemjmgopleaaGreatDoor
open Go Go.Sx
theorem OW {a:Type} [Inhabited a] (f:Nat->a) {n j:Nat} (h:j<n):at' ((List.range n).map f) (j:Int)=f j:=by
 rw[gN (by simpa using h)];simp
section
variable {p:Dr} {g:GR} {R:List RL}
theorem YU (d:VG g) (c:List (List Int)):Xw (cC p g) R c=BE (cC p g) R (kS g) c:=by
 refine EU λv=> ?_;unfold BE;rw[zBc];have b:(kS g).testBit v=decide (v<g.2.length):=by unfold kS;exact Nat.testBit_two_pow_sub_one _ _
 rw[b];by_cases a:v<g.2.length
 ·rw[zA6 a,Bool.and_true]
 ·rw[zA5 a,Bool.and_false,Pk];have:¬v<(cC p g).2.1.2.length:=a;rw[zA5 this];rfl
theorem afA {c d:List (List Int)} {ch ens:List Int} {b a:CT} {t e:Int} {f h:Int} (i:vO 1000 p g c t=some (d,f)) (j:gR 1000 p g d=some e) (k:uL 1000 b t e=some (a,h)) (l:ch.length<=900) (m:ens.length<=901):
  zW 1000 p g (ch,ens,c,b) t=some (ch++[t],ens++[e],d,a):=by
 unfold zW;dsimp only;rw[aZ (show vO 1000 _ _ c t=_ from i),aZ (show gR 1000 _ _ d=_ from j),aZ (show uL 1000 _ t e=_ from k),cO (by simp;omega),cO (by simp;omega),cO (by simp;omega),cO (by simp;omega)];rfl
theorem abm (d:VG g) (f:kK g p.2.1) {a:Int} (e:¬(1<=a∧a<=4)) {b:List (List Int)} (c:Jo g b p.2.1) (n:Int):nP 1000 p g a b n=some 12:=by
 unfold nP;rw[aZ (show kI 1000 _ _ b=_ from Pf d f c),if_neg (by decide),aZ (adv e),if_pos (by decide)]
theorem WN (d:VG g) (f:kK g p.2.1) {a:Int} (e:¬(1<=a∧a<=4)) {b:List (List Int)} (c:Jo g b p.2.1) (h:List Int):iO 1000 p g a b h=some adI:=by
 unfold iO;rw[aZ (show nP 1000 _ _ a b _=_ from abm d f e c _),if_pos (by decide)]
theorem WO (hV:VG g) (hp:kK g p.2.1) (hA:Hl p g R) (hz:p.2.2.map wK=EI R) (hR:qI p.2.1.length R=true) {kind:Int} (hk1:1<=kind) (hk4:kind<=4) {c0:List (List Int)} (hc0:Jo g c0 p.2.1) {ws:List Int} (hws:ws.length<=800) (hw:∀k:Nat,k<ws.length->∃m:Nat,at' ws (k:Int)=(m:Int)∧m<4294967296)
  {k:Nat} (hS:ady (BE (cC p g) R (kS g)) (kY (cC p g) p.2.1 R) (λe w=>xK g kind e w.toNat) ws c0 k):
  iO 1000 p g kind c0 ws=some (aas (BE (cC p g) R (kS g)) (kY (cC p g) p.2.1 R) (λe w=>xK g kind e w.toNat) ws c0 k,0):=by
 let en:=BE (cC p g) R (kS g);let st:=kY (cC p g) p.2.1 R;let rs:Nat->Int->Nat:=λe w=>xK g kind e w.toNat;obtain⟨hk,hend,hne⟩:=hS;have hvl:=hp.len;have h24:=hV.n24;have hcl:=hc0.len;have enI:∀c,Hj g (en c):=λc=>FW (cC p g) R (kS g) c;have en24:∀c,en c<16777216:=λc=>(enI c).lt hV;have hEn:∀c,Jo g c p.2.1->gR 1000 p g c=some ((en c:Nat):Int):=λc hc=>by
  rw[show gR 1000 p g c=_ from XD hV hp hA hc hz hR,YU hV]
 have hv:mB 1000 kind=some true:=by
  unfold mB oY;rw[if_pos hk1,zA6 hk4]
 have hbeg:nP 1000 p g kind c0 (ws.length:Int)=some 0:=by
  unfold nP;rw[aZ (show kI 1000 _ _ c0=_ from Pf hV hp hc0),if_neg (by decide),aZ hv,if_neg (by decide),if_neg (by omega)]
 have hB:w_ 1000 ((en c0:Nat):Int)=some (0,0,0,0,((en c0:Nat):Int)):=by
  unfold w_;rw[aZ (show kC 1000 24=some ((2^24 - 1:Nat):Int)from aed (n:=24) (by omega)),agB (en24 c0)]
 have hst0:xB 1000 p g c0=some ([],[((en c0:Nat):Int)],c0,(0,0,0,0,((en c0:Nat):Int))):=by
  unfold xB;rw[aZ (show gR 1000 _ _ c0=_ from hEn c0 hc0),aZ (adA c0 (by omega) (λv hv=>by rw[hc0.row v (by omega)];omega)),aZ (show w_ 1000 _=_ from hB)]
 unfold iO;rw[aZ (show nP 1000 _ _ kind c0 _=_ from hbeg),if_neg (by decide),aZ (show xB 1000 _ _ c0=_ from hst0)];refine cR (step:=pP 1000 p g kind ws) k (λj=>((j:Int),(HN en st rs ws c0 j).1,(HN en st rs ws c0 j).2.1,(HN en st rs ws c0 j).2.2.1,(HN en st rs ws c0 j).2.2.2.1,(HN en st rs ws c0 j).2.2.2.2,tU ((List.range j).map (tX en st rs ws c0)),(List.range (j+1)).map (λj=>((GE en st rs ws c0 j:Nat):Int)),cX en st rs ws c0 j)) (λj ag hj=> ?_) (λag=> ?_) 1000 (by omega)
 ·obtain⟨q1,R',B,pe,q2⟩:=PQ hV hp hk1 hk4 hc0 (lv:=kS g) hws hw j (by omega) (λi hi=>hne i (by omega));obtain⟨w,hwe,hw32⟩:=hw j (by omega);have hj0:GE en st rs ws c0 j≠0:=hne j hj;have heG:Hj g (GE en st rs ws c0 j):=enI _;have ht:tX en st rs ws c0 j=xK g kind (GE en st rs ws c0 j) w:=by
   show xK g kind _ (at' ws (j:Int)).toNat=_;rw[hwe];rfl
  obtain⟨r1,r2⟩:=PM hV hk1 hk4 heG hj0 hw32;have hres:=aag hV hk1 hk4 heG hj0 hw32;rw[<-ht]at r1 r2 hres;have htG:Hj g (tX en st rs ws c0 j):=λi hi=>heG i (r2 i hi);have ht24:=htG.lt hV;have hst:=ahq hV hp hA q1 hz hR (t:=tX en st rs ws c0 j) (by omega) r1 (λv hv=>by
   have h:=r2 v hv;have h:(Xw (cC p g) R _ &&& kS g).testBit v=true:=h;rw[zBc,zA1]at h;exact h.1)
  have hc1:Jo g (cX en st rs ws c0 (j+1)) p.2.1:=Ou (S:=cC p g) hp q1;have hen1:gR 1000 p g (kY (cC p g) p.2.1 R (cX en st rs ws c0 j) (tX en st rs ws c0 j))=some ((GE en st rs ws c0 (j+1):Nat):Int):=hEn _ hc1;have hadd:uL 1000 (HN en st rs ws c0 j) ((tX en st rs ws c0 j:Nat):Int) ((GE en st rs ws c0 (j+1):Nat):Int)=some (HN en st rs ws c0 (j+1),0):=ahM q2 (by omega) ht24 r1 (en24 _);have f1:tU ((List.range (j+1)).map (tX en st rs ws c0))=tU ((List.range j).map (tX en st rs ws c0))++[((tX en st rs ws c0 j:Nat):Int)]:=by
   rw[zB8,List.map_append,zB4];simp[tU]
  have f2:(List.range (j+1+1)).map (λj=>((GE en st rs ws c0 j:Nat):Int))=(List.range (j+1)).map (λj=>((GE en st rs ws c0 j:Nat):Int))++[((GE en st rs ws c0 (j+1):Nat):Int)]:=by
   rw[zB8 (n:=j+1),List.map_append,zB4]
  have ha:at' ((List.range (j+1)).map (λj=>((GE en st rs ws c0 j:Nat):Int))) (j:Int)=((GE en st rs ws c0 j:Nat):Int):=OW (λj=>((GE en st rs ws c0 j:Nat):Int)) (by omega);have hl:((List.range (j+1)).map (λj=>((GE en st rs ws c0 j:Nat):Int))).length=j+1:=by simp
  have hnx:=afA (ch:=tU ((List.range j).map (tX en st rs ws c0))) (ens:=(List.range (j+1)).map (λj=>((GE en st rs ws c0 j:Nat):Int))) hst hen1 hadd (by simp[tU];omega) (by rw[hl];omega);rw[<-f1,<-f2]at hnx;unfold pP sT;dsimp only;rw[if_pos (by omega),cO (by omega),ha,zA6 (by omega),if_pos Z,cO (by omega),cO (by omega),hwe,aZ (show sQ 1000 _ kind _ _=_ from hres),aZ (show zW 1000 _ _ _ _=_ from hnx),dH (by omega)];rfl
 ·have ha:at' ((List.range (k+1)).map (λj=>((GE en st rs ws c0 j:Nat):Int))) (k:Int)=((GE en st rs ws c0 k:Nat):Int):=OW (λj=>((GE en st rs ws c0 j:Nat):Int)) (by omega);have hl:((List.range (k+1)).map (λj=>((GE en st rs ws c0 j:Nat):Int))).length=k+1:=by simp
  unfold pP sT yF;dsimp only;by_cases hlt:k<ws.length
  ·have e:GE en st rs ws c0 k=0:=hend.resolve_left (by omega);rw[if_pos (by omega),cO (by omega),ha,e,zA5 (by simp),if_neg (by decide)];rfl
  ·rw[if_neg (by omega),if_neg (by decide)];rfl
end
def KU (f:Nat->Nat):Nat->Nat
 |0=>0
 |n+1=>max (KU f n) (f n)
theorem Px {f:Nat->Nat}:∀{n v:Nat},v<n->f v<=KU f n
 |n+1,v,h=>by
  unfold KU;by_cases e:v=n
  ·subst e;exact Nat.le_max_right _ _
  ·exact zB0 (Px (by omega)) (Nat.le_max_left _ _)
theorem Me {f:Nat->Nat} {b:Nat}:∀{n:Nat},(∀v,v<n->f v<=b)->KU f n<=b
 |0,_=>Nat.zero_le _
 |n+1,h=>by
  unfold KU;exact Nat.max_le.2 ⟨Me λv a=>h v (by omega),h n (by omega)⟩
theorem ZI {f h:Nat->Nat} {n:Nat} (e:∀v,v<n->f v<=h v):KU f n<=KU h n:=Me λv a=>zB0 (e v a) (Px a)
theorem ZH {ch:List Nat} (hch:∀t∈ch,t<4294967296) (hl:ch.length<=900) (r1:List Int) (r2:List (List Int)) (r3:CT):
  gX 1000 (tU ch,r1,r2,r3)=some (((IJ ch:Nat):Int),((KU (l_ ch) 24:Nat):Int)):=by
 have hil:(tU ch).length=ch.length:=by simp[tU]
 let F:Nat->Nat->Int:=λk v=>((l_ (ch.take k) v:Nat):Int)
 let Q:Nat->List Int:=λk=>(List.range 24).map (F k);obtain⟨X,hXe⟩:∃X:Nat->Nat,∀k,X k=KU (l_ (ch.take k)) 24:=⟨_,λ_=>rfl⟩
 have hle:∀k v,l_ (ch.take k) v<=900:=λk v=>zB0 List.countP_le_length (by simp;omega);unfold gX;rw[show List.replicate 24 (0:Int)=Q 0 by
  refine List.ext_getElem (by simp[Q]) λi h1 h2=> ?_;rw[List.getElem_replicate];simp[Q,F,l_]]
 have hX0:X 0=0:=by rw[hXe];exact Nat.le_antisymm (Me λv _=>by simp[l_]) (Nat.zero_le _)
 rw[show KU (l_ ch) 24=X ch.length by rw[hXe,List.take_length]];have hO0:IJ (ch.take 0)=0:=rfl;rw[show((0:Int),(0:Int),(0:Int),Q 0)=(((IJ (ch.take 0):Nat):Int),((X 0:Nat):Int),((0:Nat):Int),Q 0) by rw[hX0,hO0];rfl];refine cR (step:=iI 1000 (tU ch,r1,r2,r3)) ch.length (λk=>(((IJ (ch.take k):Nat):Int),((X k:Nat):Int),(k:Int),Q k)) (λk ag hk=> ?_) (λag=> ?_) 1000 (by omega)
 ·have ht:at' (tU ch) (k:Int)=((ch[k]:Nat):Int):=by rw[gN (by omega)];simp[tU]
  have ht32:=hch ch[k] (zB7 hk);have htk:ch.take (k+1)=ch.take k++[ch[k]]:=by rw[wA hk,gN hk]
  have hs:=λj=>NS (ch.take k) ch[k] j;rw[<-htk]at hs;let G:Nat->List Int:=λj=>(List.range j).map (F (k+1))++(List.range' j (24 - j)).map (F k);have hG:∀j,j<=24->(G j).length=24:=λj hj=>by simp[G];omega
  have hGj:∀j,j<24->at' (G j) (j:Int)=F k j:=λj hj=>by
   rw[gN (by rw[hG j (by omega)];exact hj)];simp[G]
  have hGs:∀j,j<24->(G j).set j (F (k+1) j)=G (j+1):=λj hj=>by
   show((List.range j).map (F (k+1))++(List.range' j (24 - j)).map (F k)).set j (F (k+1) j)=(List.range (j+1)).map (F (k+1))++(List.range' (j+1) (24 - (j+1))).map (F k);rw[List.set_append_right _ _ (by simp),List.length_map,List.length_range,Nat.sub_self,show 24 - j=(24 - (j+1))+1 by omega,List.range'_succ,zBa,List.set_cons_zero,zB8,List.map_append,zB4,zB2];rfl
  unfold iI;dsimp only;rw[if_pos (by omega),cO (by omega),show Q k=G 0 by simp[Q,G,List.range_eq_range']];obtain⟨m,hm⟩:∃m:Nat->Nat,∀j,m j=max (X k) (KU (l_ (ch.take (k+1))) j):=⟨_,λ_=>rfl⟩
  have hm0:X k=m 0:=by rw[hm];exact(Nat.max_eq_left (Nat.zero_le _)).symm
  have hm1:m 24=X (k+1):=by rw[hm,hXe,hXe];exact Nat.max_eq_right (ZI λv _=>by rw[hs v];omega)
  rw[hm0];refine cR (step:=mH (tU ch,r1,r2,r3) (((IJ (ch.take k):Nat):Int),((m 0:Nat):Int),(k:Int),G 0) ag) 24 (λj=>(((m j:Nat):Int),(j:Int),G j)) (λj ag2 hj=> ?_) (λag2=> ?_) 1000 (by omega)
  ·have:=hle k j;have hGl:=hG j (by omega);have e:wI .i64 (at' (G j) (j:Int)+wI .i64 (eG .u32 (mZ .u32 ((ch[k]:Nat):Int) (j:Int)) 1))=F (k+1) j:=by
    rw[ahQ (by omega) ht32,hGj j hj];show wI .i64 (((l_ (ch.take k) j:Nat):Int)+_)=((l_ (ch.take (k+1)) j:Nat):Int)
    rw[hs j];split
    ·rw[show wI .i64 (1:Int)=1 from rfl,dH (by omega)]
    ·rw[show wI .i64 (0:Int)=0 from rfl,wr (by omega) (by omega)];omega
   unfold mH;dsimp only;have hat:at' ((G j).set j (F (k+1) j)) (j:Int)=F (k+1) j:=by rw[AN _ _ _ _ (by omega),if_pos Z]
   rw[if_pos (by omega),cO (by omega),cO (by omega),cO (by omega),ht,e,zAe,cO (by rw[zA2];omega),hat,dH (by omega),hGs j hj];have hmj:max ((m j:Nat):Int) (F (k+1) j)=((m (j+1):Nat):Int):=by
    rw[hm,hm];show max ((max (X k) (KU (l_ (ch.take (k+1))) j):Nat):Int) ((l_ (ch.take (k+1)) j:Nat):Int)=((max (X k) (max (KU (l_ (ch.take (k+1))) j) (l_ (ch.take (k+1)) j)):Nat):Int)
    omega
   rw[hmj]
  ·have hG24:G 24=Q (k+1):=by simp[G,Q]
   unfold mH pW;dsimp only;rw[if_neg (by omega),hG24,ht,dH (by omega),hm1,htk,ZT,abl (ZS λt h=>hch t (List.mem_of_mem_take h)) ht32]
 ·unfold iI pV;dsimp only;rw[if_neg (by omega)];rw[List.take_length]
theorem afy {ch:List Nat} (hch:∀t∈ch,t<4294967296) (hl:ch.length<=900) (r1:List Int) (c:List (List Int)) (hn:c.length<=24) (r3:CT):
  xC 1000 (tU ch,r1,c,r3)=some ((List.range c.length).map λv=>((l_ ch v:Nat):Int)):=by
 have hil:(tU ch).length=ch.length:=by simp[tU]
 let n:=c.length;have hn:n<=24:=hn;let F:Nat->Nat->Int:=λk v=>((l_ (ch.take k) v:Nat):Int)
 let Q:Nat->List Int:=λk=>(List.range n).map (F k);have hle:∀k v,l_ (ch.take k) v<=900:=λk v=>zB0 List.countP_le_length (by simp;omega);unfold xC;dsimp only;rw[cO (by omega),show List.replicate (Int.toNat (c.length:Int)) (0:Int)=Q 0 by
  refine List.ext_getElem (by simp[Q,n]) λi h1 h2=> ?_;rw[List.getElem_replicate];simp[Q,F,l_]]
 refine cR (step:=mO 1000 (tU ch,r1,c,r3)) ch.length (λk=>((k:Int),Q k)) (λk ag hk=> ?_) (λag=> ?_) 1000 (by omega)
 ·have ht:at' (tU ch) (k:Int)=((ch[k]:Nat):Int):=by rw[gN (by omega)];simp[tU]
  have ht32:=hch ch[k] (zB7 hk);have htk:ch.take (k+1)=ch.take k++[ch[k]]:=by rw[wA hk,gN hk]
  have hs:=λj=>NS (ch.take k) ch[k] j;rw[<-htk]at hs;let G:Nat->List Int:=λj=>(List.range j).map (F (k+1))++(List.range' j (n - j)).map (F k);have hG:∀j,j<=n->(G j).length=n:=λj hj=>by simp[G];omega
  have hGj:∀j,j<n->at' (G j) (j:Int)=F k j:=λj hj=>by
   rw[gN (by rw[hG j (by omega)];exact hj)];simp[G]
  have hGs:∀j,j<n->(G j).set j (F (k+1) j)=G (j+1):=λj hj=>by
   show((List.range j).map (F (k+1))++(List.range' j (n - j)).map (F k)).set j (F (k+1) j)=(List.range (j+1)).map (F (k+1))++(List.range' (j+1) (n - (j+1))).map (F k);rw[List.set_append_right _ _ (by simp),List.length_map,List.length_range,Nat.sub_self,show n - j=(n - (j+1))+1 by omega,List.range'_succ,zBa,List.set_cons_zero,zB8,List.map_append,zB4,zB2];rfl
  unfold mO;dsimp only;rw[if_pos (by omega),show Q k=G 0 by simp[Q,G,List.range_eq_range']];refine cR (step:=rS 1000 (tU ch,r1,c,r3) ((k:Int),G 0) ag) n (λj=>((j:Int),G j)) (λj ag2 hj=> ?_) (λag2=> ?_) 1000 (by omega)
  ·have hk9:=hle k j;have hGl:=hG j (by omega);unfold rS uX;dsimp only;rw[if_pos (by omega),cO (by omega),ht,aZ (EN ht32 (by omega)),hGj j hj,dH (by omega),zAe];have e:F (k+1) j=F k j+if ch[k].testBit j=true then 1 else 0:=by
    show((l_ (ch.take (k+1)) j:Nat):Int)=((l_ (ch.take k) j:Nat):Int)+_;rw[hs j];split<;>omega
   cases hb:ch[k].testBit j with
   |true=>
    rw[hb,if_pos Z]at e;have hF:F k j=((l_ (ch.take k) j:Nat):Int):=rfl;rw[if_pos Z,cO (by omega),cO (by omega),wr (by omega) (by omega),<-e,hGs j hj]
   |false=>
    rw[hb,if_neg (by decide),Int.add_zero]at e;rw[if_neg (by decide),<-hGs j hj,e];congr 2;rw[<-hGj j hj,gN (by omega),List.set_getElem_self]
  ·unfold rS Ao;dsimp only;rw[if_neg (by rw[hG n (zAd _)];omega),dH (by omega)];congr 2;simp[G,Q]
 ·unfold mO An;dsimp only;rw[if_neg (by omega)];simp only[Q,F,List.take_length];rfl
theorem RU {p:Dr} {g:GR} {kind:Int} {c0 c:List (List Int)} {ws ens:List Int} {ch:List Nat} {cnt:CT} (hf:iO 1000 p g kind c0 ws=some ((tU ch,ens,c,cnt),0)) (hl:ch.length<=900) (hin:∀t∈ch,∀i,t.testBit i=true->i<c.length) (hn:c.length<=24) {k:Nat} (he:ens.length=k+1) (hk:k<=900):
  gS 1000 p g kind c0 ws=some ((((IJ ch:Nat):Int),((KU (l_ ch) 24:Nat):Int),cnt.2.1,cnt.2.2.2.1,decide (at' ens (k:Int)=0),c),0):=by
 have hch:∀t∈ch,t<4294967296:=λt h=>zAj (Nat.lt_pow_two_of_testBit (n:=24) t λi hi=>by
  cases hx:t.testBit i with
  |false=>rfl
  |true=>have:=hin t h i hx;omega) (by decide)
 have hz:∀v,c.length<=v->l_ ch v=0:=λv hv=>by
  unfold l_;rw[List.countP_eq_zero];intro t ht hb;have:=hin t ht v (by simpa using hb);omega
 have e1:wI .i64 ((ens.length:Int) - 1)=(k:Int):=by rw[wr (by omega) (by omega)];omega
 unfold gS;rw[aZ (show iO 1000 _ _ kind c0 ws=_ from hf)];dsimp only;rw[if_neg (by decide),e1,cO (by omega),aZ (show xC 1000 (tU ch,ens,c,cnt)=_ from afy hch hl ens c hn cnt)];have hM:((List.range c.length).map λv=>((l_ ch v:Nat):Int)).length=c.length:=by simp
 have hor:mM (λv=>decide (0<l_ ch v)) c.length=IJ ch:=EU λv=>by
  rw[Cs,Bool.eq_iff_iff,zA1,zA8,zA8,Vx];exact⟨λh=>h.2,λh=>⟨Nat.lt_of_not_le λq=>by rw[hz v q]at h;omega,h⟩⟩
 have hmx:KU (l_ ch) c.length=KU (l_ ch) 24:=by
  refine Nat.le_antisymm (Me λv hv=>Px (by omega)) (Me λv hv=> ?_);by_cases q:v<c.length
  ·exact Px q
  ·rw[hz v (by omega)];omega
 rw[<-hor,<-hmx];refine cR (step:=nZ ((tU ch,ens,c,cnt),0) ((List.range c.length).map λv=>((l_ ch v:Nat):Int))) c.length (λv=>((v:Int),((mM (λv=>decide (0<l_ ch v)) v:Nat):Int),((KU (l_ ch) v:Nat):Int))) (λv ag hv=> ?_) (λag=> ?_) 1000 (by omega)
 ·have hm:=Dk (λv=>decide (0<l_ ch v)) (k:=v) (by omega);have hat:at' ((List.range c.length).map λv=>((l_ ch v:Nat):Int)) (v:Int)=((l_ ch v:Nat):Int):=OW _ hv;unfold nZ rT;dsimp only;rw[hM,if_pos (by omega),cO (by omega),cO (by omega),hat,SH (by omega),dH (by omega)];have hx:max ((KU (l_ ch) v:Nat):Int) ((l_ ch v:Nat):Int)=((KU (l_ ch) (v+1):Nat):Int):=by
   show _=((max (KU (l_ ch) v) (l_ ch v):Nat):Int)
   omega
  rw[hx];by_cases h0:0<l_ ch v
  ·rw[if_pos (by omega),cO (by omega),EF hm (by omega)];simp[mM,h0]
  ·rw[if_neg (by omega)];simp[mM,h0]
 ·unfold nZ v_;dsimp only;rw[hM,if_neg (by omega),e1]
theorem aae {p:Dr} {g:GR} {kind:Int} {c0 c:List (List Int)} {ws ens:List Int} {ch:List Nat} {cnt:CT} (hf:iC 1000 p g kind c0 ws=some ((tU ch,ens,c,cnt),0)) (hl:ch.length<=900) (hch:∀t∈ch,t<4294967296) {k:Nat} (he:ens.length=k+1) (hk:k<=900):
  jG 1000 p g kind c0 ws=some ((((IJ ch:Nat):Int),((KU (l_ ch) 24:Nat):Int),cnt.2.1,cnt.2.2.2.1,decide (at' ens (k:Int)=0),c),0):=by
 have e1:wI .i64 ((ens.length:Int) - 1)=(k:Int):=by rw[wr (by omega) (by omega)];omega
 unfold jG;rw[aZ (show iC 1000 _ _ kind c0 ws=_ from hf)];dsimp only;rw[if_neg (by decide),aZ (show gX 1000 (tU ch,ens,c,cnt)=_ from ZH hch hl ens c cnt),e1,cO (by omega)]
def guC:E:= .ag 21 (.bi 35 (.lf 12 0) (.lf 5 0))
def vaC:E:= .ag 27 (.lf 12 0)
def RC:List RL:=[(guC,[(0,vaC)])]
theorem adi:qI 1 RC=true:=by decide +kernel
theorem loC (g:GR) (v:Nat):lo g (at' Gr ((0:Nat):Int)) v=0:=rfl
theorem hiC (g:GR) (v:Nat):hi g (at' Gr ((0:Nat):Int)) v=(g.2.length:Int):=by
 show(0:Int)+1*(g.2.length:Int)+0*kW g g.1.length=_;omega
theorem ahw {g:GR} (c:VG g):kK g Gr:=by
 have b:=c.n24;refine⟨by decide,VJ,λx a=> ?_,λx a _=> ?_⟩
 ·obtain rfl:x=0:=by simp[Gr]at a;exact a
  exact .inl Z
 ·obtain rfl:x=0:=by simp[Gr]at a;exact a
  rw[loC,hiC];omega
theorem abi (f:Nat) (x y:Int):qH f 35 x y=some (SQ (decide (x=y))):=by
 unfold qH;rw[if_neg (by decide),if_neg (by decide),if_neg (by decide),if_neg (by decide),if_neg (by decide),if_pos Z,aZ (MP f _)]
theorem TE {g:GR} {c:bO} {b:Int} (d:b<=1000) (h:∀v:Nat,v<g.2.length->0<=WF c v∧WF c v<=b) {v:Nat} (a:v<g.2.length):M_ (WF c v):=by
 have:=h v a;exact⟨by omega,by omega⟩
theorem acU {g:GR} {c:bO} {b:Int} (e:VG g) (f:b<=1000) (h:∀v:Nat,v<g.2.length->0<=WF c v∧WF c v<=b) {v:Nat} (j:v<g.2.length) {q:Nat} (i:q<(row g v).length):M_ (PE g c v q):=by
 obtain⟨u,a,d⟩:=e.to j i;rw[acV d];exact TE f h a
theorem afG {p:Dr} {g:GR} (e:VG g) (t:p.2.1=Gr):Hl p g RC:=by
 intro c i v b r u;rw[t]at i;have h:uB g 1 c:=i.shape;have n:=e.n24;have l:∀v:Nat,v<g.2.length->0<=WF c v∧WF c v<=(g.2.length:Int):=λv b=>by
  have:=i.ok v b 0 (by decide);rw[loC,hiC]at this;exact this
 obtain rfl:r=(guC,[(0,vaC)]):=by simpa [RC]using u
 have m:∀(f:Nat) {T:eY} {k:Int} {q:Nat},q<(row g v).length->at' T k=(12,0)->0<=k∧k<(T.length:Int)->dY (f+1) g c (v:Int) (q:Int) T k=some (PE g c v q):=λf {T k q} d hk hkr=>adM e h b d (a:=0) (by decide) hk hkr;refine⟨?_,λs w=> ?_⟩
 ·refine(rAg (f:=999) (k1:=1) (o:=21) e b (.inl Z) (by omega) (T:=guC.ts) (k:=0) Z (by decide) Z (F:=λq=>SQ (decide (PE g c v q=WF c v))) λq d=> ?_).trans Z;exact rBi (f:=998) (o:=35) (k1:=2) (j:=3) (by decide) (by decide) Z (by decide) Z (by decide +kernel) (m 997 d Z (by decide)) (afE (f:=997) h b (a:=0) (by decide) Z (by decide)) (acU e (by omega) l b d) (TE (by omega) l b) (abi _ _ _) (GB _)
 ·obtain rfl:s=(0,vaC):=by simpa using w
  exact(rAg (f:=999) (k1:=1) (o:=27) e b (.inr Z) (by omega) (T:=vaC.ts) (k:=0) Z (by decide) Z (F:=λq=>PE g c v q) λq d=>m 998 d Z (by decide)).trans Z
theorem UE (f:Nat) (x y:Int):qH f 41 x y=some (SQ (decide (x≠0)&&decide (y≠0))):=by
 unfold qH;rw[if_neg (by decide),if_neg (by decide),if_neg (by decide),if_neg (by decide),if_neg (by decide),if_neg (by decide),if_neg (by decide),if_neg (by decide),if_neg (by decide),if_neg (by decide),if_neg (by decide),if_pos Z];by_cases h:x=0
 ·rw[if_neg (by simpa using h),zA5 (by simpa using h),Bool.false_and];exact(aZ (MP f _))
 ·rw[if_pos h,zA6 h,Bool.true_and];exact(aZ (MP f _))
theorem afH {p:Dr} {g:GR} (m:VG g) (A:p.2.1=Gs):Hl p g RM:=by
 intro c n v d r t;rw[A]at n;have e:uB g 1 c:=n.shape;have y:=m.n24;have z:∀v:Nat,v<g.2.length->0<=WF c v∧WF c v<=1:=λv d=>by
  have:=n.ok v d 0 (by decide);rw[loM,hiM]at this;exact this
 have x:∀(f:Nat) {T:eY} {k:Int} {q:Nat},q<(row g v).length->at' T k=(12,0)->0<=k∧k<(T.length:Int)->dY (f+1) g c (v:Int) (q:Int) T k=some (PE g c v q):=λf {T k q} i hk hkr=>adM m e d i (a:=0) (by decide) hk hkr;have w:M_ (WF c v):=TE (b:=1) (by omega) z d;have h:∀l:aX,M_ (Kg 21 l):=λl=>GB _;have t:r=(guL,[(0,.lf 3 0)])∨r=(guE,[(0,.lf 2 0)]):=by simpa [RM]using t
 rcases t with rfl|rfl
 ·refine⟨?_,λs u=> ?_⟩
  ·exact(rBi (f:=999) (o:=41) (k1:=1) (j:=2) (T:=guL.ts) (by decide) (by decide) Z (by decide) Z (by decide +kernel) (afE (f:=998) e d (a:=0) (by decide) Z (by decide))
    (rAg (f:=998) (k1:=3) (o:=21) m d (.inl Z) (by omega) Z (by decide) Z (F:=λq=>PE g c v q) λq i=>x 997 i Z (by decide)) w (h _) (UE _ _ _) (GB _)).trans Z
  ·obtain rfl:s=(0,.lf 3 0):=by simpa using u
   exact(adL (b:=false) (f:=999) (T:=(E.lf 3 0).ts) (k:=0) Z (by decide)).trans Z
 ·refine⟨?_,λs u=> ?_⟩
  ·exact(rBi (f:=999) (o:=41) (k1:=1) (j:=3) (T:=guE.ts) (by decide) (by decide) Z (by decide) Z (by decide +kernel) (ahl (f:=998) (k1:=2) Z (by decide) Z (afE (f:=997) e d (a:=0) (by decide) Z (by decide)) w)
    (ahl (f:=998) (k1:=4) Z (by decide) Z (rAg (f:=997) (k1:=5) (o:=21) m d (.inl Z) (by omega) Z (by decide) Z (F:=λq=>PE g c v q) λq i=>x 996 i Z (by decide)) (h _)) (GB _) (GB _) (UE _ _ _) (GB _)).trans Z
  ·obtain rfl:s=(0,.lf 2 0):=by simpa using u
   exact(adL (b:=true) (f:=999) (T:=(E.lf 2 0).ts) (k:=0) Z (by decide)).trans Z
end Go.Proofs.YtahgemjmgopleaaGreatDoor
namespace Go.Proofs.YtahgemjmgopleaaGreatDoor
open Go.Sx
def sD (U:Nat)  : Option (ByteArray):=
 some (ByteArray.mk #[112,114,111,103,114,97,109,32,105,110,100,101,112,101,110,100,101,110,116,59,10,118,97,114,32,109,32,58,32,98,111,111,108,59,10,114,117,108,101,32,108,101,97,118,101,58,32,109,32,38,38,32,115,111,109,101,40,113,46,109,41,32,45,62,32,109,32,58,61,32,102,97,108,115,101,59,10,114,117,108,101,32,101,110,116,101,114,58,32,33,109,32,38,38,32,33,115,111,109,101,40,113,46,109,41,32,45,62,32,109,32,58,61,32,116,114,117,101,59,10])
theorem agH:aV Tryz.prog 6:=Tryz.call6
theorem H_ (U:Nat)  (r:ByteArray) (h:sD U  = some r):
  aW Tryz.prog 6 #[] [] (λx:Unit=>vS (r)) (λx l=>l) (λ_ l=>l):=by
 refine aW.of Tryz.func6 Z Tryz.ntmps6 Z λc=>?_;unfold sD at h;refine aR<|aB Z<|aL<|aR<|aB Z<|aL<|aQ ?_;cases h;exact fW Z
def vK (U:Nat)  : Option (ByteArray):=
 some (ByteArray.mk #[112,114,111,103,114,97,109,32,99,111,108,111,117,114,105,110,103,59,10,118,97,114,32,99,32,58,32,48,32,46,46,32,110,59,10,114,117,108,101,32,102,105,120,58,32,115,111,109,101,40,113,46,99,32,61,61,32,99,41,32,45,62,32,99,32,58,61,32,109,101,120,40,113,46,99,41,59,10])
theorem agJ:aV Tryz.prog 8:=Tryz.call8
theorem JN (U:Nat)  (r:ByteArray) (h:vK U  = some r):
  aW Tryz.prog 8 #[] [] (λx:Unit=>vS (r)) (λx l=>l) (λ_ l=>l):=by
 refine aW.of Tryz.func8 Z Tryz.ntmps8 Z λc=>?_;unfold vK at h;refine aR<|aB Z<|aL<|aR<|aB Z<|aL<|aQ ?_;cases h;exact fW Z
def tF  (a:Int):Option gC:=
 some (a,(0:Int))
def eP (U:Nat) (c:aX) (a:eL) (d:gC->Option gC):Option gC:=
 if a.1≠(0:Int)then(Option.bind (iU U a.1) λb=>(ck (0<=b∧b<(c.length:Int)) (if(at' c b)<(0:Int)then(some ((-1:Int),(0:Int)))else(d ((eG .u32 a.1 (wI .u32 (a.1 - (1:Int)))),(max a.2 (at' c b)))))))else(tF  (a.2))
def iN (U:Nat) (c:jC) (b:cW) (f:Int) (g:bO) (h:aX) (i:Int):Option gC:=
 Option.bind (iC U ((c.1,c.2.1,c.2.2)) ((b.1,b.2)) f g h) λa=>(if a.2≠(0:Int)then(some ((0:Int),a.2))else(Option.bind (gX U ((a.1.1,a.1.2.1,a.1.2.2.1,((a.1.2.2.2.1,a.1.2.2.2.2.1,a.1.2.2.2.2.2.1,a.1.2.2.2.2.2.2.1,a.1.2.2.2.2.2.2.2))))) λd=>(Option.bind (lK U ((b.1,b.2)) i) λe=>(bK (eP U e) U (d.1,(-1:Int))))))
theorem ael:aV Tryz.prog 16:=Tryz.call16
theorem Gj (U:Nat) {g:jC} {A:cW} {H:Int} {I:bO} {J:aX} {K:Int} (q:Value)  (s:Value)  (t:Value)  (u:Value)  (G:iX)  (B:Value)  (L:lU)  (C:Value) (r:eL) (h:iN U g A H I J K=some r):
  aW Tryz.prog 16 #[Value.agg #[vS (g.1),q,s],Value.agg #[t,u],vI (H),B,C,vU (K)] [Sl aP q g.2.1,Sl aJ s g.2.2,PF (Value.agg #[vS g.1,q,s]),Sl bX t A.1,S2 bD u G A.2,S2 bX B L I,Sl wR C J,Gb 0 (cellsOf J_ Au)] (λx:Unit=>Value.tuple #[vI (r.1),vI (r.2)]) (λx l=>l) (λ_ l=>l):=by
 refine aW.of Tryz.func16 Z Tryz.ntmps16 Z λc=>?_;refine aR<|aH (aN.box (cs:=[vS (g.1),q,s]) Z Z) Z λQ=>aH (aN.box (cs:=[t,u]) Z Z) Z λR=>aB Z<|aB Z<|aL<|aR<|cM 1 Z<|cM 0 Z<|aA Z<|aA Z<|aA Z<|dZ h λe N h=>aH (zBg Yo (Jb U q s t u G B L C e N) Z (jP [0,1,2,3,4,5,6,7] Z)) Z λf=>aA Z<|eQ Z<|eQ Z<|aH (aN.alloc (cs:=FC) Z Z) Z λS=>bE (Know.one ((aT (aD.res 1 Z) cP))) λw=>bE (Know.one ((aT (aD.res 2 Z) cP))) λy=>bE (Know.one (aD.sl (bB (i:=3) (j:=4) Z Z dD))) λz=>bF 0 (vs:=[f.1,f.2.1,f.2.2.1,vI (e.1.2.2.2.1),vI (e.1.2.2.2.2.1),vI (e.1.2.2.2.2.2.1),vI (e.1.2.2.2.2.2.2.1),vU (e.1.2.2.2.2.2.2.2)]) Z Z (bR w (bR y (bR z (bR Z (bR Z (bR Z (bR Z (bR Z Z)))))))) Z Z Z<|aB Z<|aL<|aK<|aR<|aA Z<|jQ Z<|aL ?_;refine d_ h Z (λh=>?_) λh=>?_
 ·refine aR<|aA Z<|aB Z<|aB Z<|aL<|aQ<|aI ?_;cases h;exact eD () Z Z (RV.tmp Z) (RV.tmp Z) .nil aG.nil
 refine cE<|aR<|cM 0 Z<|dZ h λo D h=>aH (zBg Yr (Cc U f.1 f.2.1 f.2.2.1 (List.zip f.2.2.2 e.1.2.2.1) o D) Z (aG.cons (aT (aD.res 1 Z) cP) (aG.cons (aT (aD.res 2 Z) cP) (aG.cons (bB (i:=3) (j:=4) Z Z dD) .nil)))) Z λO=>aA Z<|eQ Z<|eQ Z<|aB Z<|aB Z<|aL<|aR<|cM 5 Z<|aA Z<|dZ h λd E h=>aH (zBg aet (FB U t u G d E) Z (jP [3,4] Z)) Z λv=>aB Z<|aL<|aR<|aB Z<|aL<|aK<|dK (λb=>tF  b=some r) (λb k=>[(19,vI (b))]) (λb k=>[]) ?_ ?_
 ·refine aS<|eB (eP U d) (λa m=>[(16,vU (a.1)),(18,v),(19,vI (a.2))]) (λa m=>[Ar cS v d]) (o.1,(-1:Int)) () h SF (bA.ix [0] Z Z) ?_;intro M a m h;refine aK<|aR<|aA Z<|jQ Z<|aL ?_;refine d_ h Z (λh=>?_) λh=>?_
  ·refine cE<|aK<|aS<|aR<|aA Z<|aA Z<|dZ h λp F h=>aH (zBg Tw (sG U  p F) Z (jP [7] Z)) Z λP=>dW h λn h=>aC (a_ Z Z (aT (aD.res 0 Z) dD) Z Z n) Z<|aC (bY Z (aT (aD.res 0 Z) dD) Z Z Z eH n) Z<|aB Z<|aL<|aK<|aR<|aA Z<|cZ Z<|aL ?_;refine d_ h Z (λh=>?_) λh=>?_
   ·refine aR<|aB Z<|aB Z<|aL<|aQ<|aI<|bG<|aI<|aI<|bG<|aI ?_;cases h;exact eD () Z Z (RV.tmp Z) (RV.tmp Z) .nil aG.nil
   refine cE<|aO<|aA Z<|aA Z<|aC (DZ Z Z) Z<|aB Z<|eN<|jH<|aO<|aA Z<|aA Z<|aC (lO Z Z) Z<|wE Z<|aB Z<|aL ?_;exact tV ((eG .u32 a.1 (wI .u32 (a.1 - (1:Int)))),(max a.2 (at' d p))) () h SF Z
  refine eS ?_;exact bU (a.2) () h SF .nil (aG.refl _ _)
 intro b k h;unfold tF at h;refine aR<|aA Z<|aB Z<|aB Z<|aL<|aQ ?_;cases h;exact eD () Z Z (RV.tmp Z) (RV.tmp Z) (bA.refl _) aG.nil
def yI  (a:Unit):Option gC:=
 some ((-1:Int),(0:Int))
def jO (U:Nat) (c:cW) (e:Int) (f:(Int×Int×Int×Int×Bool×bO)×Int) (a:Int) (b:(Int)->Option gC):Option gC:=
 if a<(c.2.length:Int)then(Option.bind (mK U ((c.1,c.2)) e a) λd=>(if(kE .u32 f.1.1 d)=(0:Int)then(some (a,(0:Int)))else(b (wI .i64 (a+(1:Int))))))else(yI  (()))
def oP (U:Nat) (b:jC) (c:cW) (d:Int) (e:bO) (f:aX) (g:Int):Option gC:=
 Option.bind (gS U ((b.1,b.2.1,b.2.2)) ((c.1,c.2)) d e f) λa=>(if a.2≠(0:Int)then(some ((0:Int),a.2))else(if a.1.1=(0:Int)then(some ((-1:Int),(0:Int)))else(bK (jO U c g a) U (0:Int))))
theorem aem:aV Tryz.prog 17:=Tryz.call17
theorem MH (U:Nat) {e:jC} {q:cW} {D:Int} {E:bO} {F:aX} {s:Int} (n:Value)  (o:Value)  (f:Value)  (g:Value)  (A:iX)  (v:Value)  (G:lU)  (w:Value) (r:eL) (h:oP U e q D E F s=some r):
  aW Tryz.prog 17 #[Value.agg #[vS (e.1),n,o],Value.agg #[f,g],vI (D),v,w,vU (s)] [Sl aP n e.2.1,Sl aJ o e.2.2,PF (Value.agg #[vS e.1,n,o]),Sl bX f q.1,S2 bD g A q.2,S2 bX v G E,Sl wR w F] (λx:Unit=>Value.tuple #[vI (r.1),vI (r.2)]) (λx l=>l) (λ_ l=>l):=by
 refine aW.of Tryz.func17 Z Tryz.ntmps17 Z λc=>?_;refine aR<|aH (aN.box (cs:=[vS (e.1),n,o]) Z Z) Z λJ=>aH (aN.box (cs:=[f,g]) Z Z) Z λB=>aB Z<|aB Z<|aL<|aR<|cM 1 Z<|cM 0 Z<|aA Z<|aA Z<|aA Z<|dZ h λa I h=>aH (zBg Ym (Fq U n o f g A v G w a I) Z (jP [0,1,2,3,4,5,6] Z)) Z λp=>aA Z<|eQ Z<|eQ Z<|aH (aN.alloc (cs:=vD2) Z Z) Z λC=>bE (Know.one (aD.sl (bB (i:=1) (j:=2) Z Z dD))) λt=>bF 0 (vs:=[vU (a.1.1),vI (a.1.2.1),vI (a.1.2.2.1),vI (a.1.2.2.2.1),vB (a.1.2.2.2.2.1),p.1]) Z Z (bR Z (bR Z (bR Z (bR Z (bR Z (bR t Z)))))) Z Z Z<|aB Z<|aL<|aK<|aR<|aA Z<|jQ Z<|aL ?_;refine d_ h Z (λh=>?_) λh=>?_
 ·refine aR<|aA Z<|aB Z<|aB Z<|aL<|aQ<|aI ?_;cases h;exact eD () Z Z (RV.tmp Z) (RV.tmp Z) .nil aG.nil
 refine cE<|aK<|aR<|bN Z<|dL 0 Z<|bS Z<|aL ?_;refine d_ h Z (λh=>?_) λh=>?_
 ·refine aR<|aB Z<|aB Z<|aL<|aQ<|aI ?_;cases h;exact eD () Z Z (RV.tmp Z) (RV.tmp Z) .nil aG.nil
 refine cE<|aK<|dK (λb=>yI  b=some r) (λb k=>[]) (λb k=>[]) ?_ ?_
 ·refine aR<|aB Z<|aL<|aS<|eB (jO U q s a) (λd m=>[(5,vU (s)),(7,vP B),(14,vP C),(16,vI (d))]) (λd m=>[cJ C [vU (a.1.1),vI (a.1.2.1),vI (a.1.2.2.1),vI (a.1.2.2.2.1),vB (a.1.2.2.2.2.1),p.1] 43,Ar fE.raw p.1 p.2,k_ cS p.2 a.1.2.2.2.2.2,cJ B [f,g] 29]) (0:Int) () h SF (bA.ix [0,1,2,3] Z Z) ?_;intro H d m h;refine aK<|aR<|aA Z<|bN Z<|dL 3 Z<|aC (gM Z (aD.fact 4 Z) Z) Z<|cZ Z<|aL ?_;refine d_ h Z (λh=>?_) λh=>?_
  ·refine cE<|aK<|aS<|aK ?_;refine JR.start [0,1,0,0,0,28,63,127] 6 mixedOrders (by decide +kernel) ?_;refine zBj (by exact rfl) ?_;refine cB Z<|fD 0 Z<|gK 3 Z<|aY Z<|aY Z<|dZ h λu y h=>zBh Z Z Z (zBg aeu (MG U f g A u y) Z (jP [3,4] Z)) Z (λz=>(kG [([0],[])] Z)) λz=>bP 6 Z Z<|aC (zG Z Z) Z<|bS Z<|aL ?_;refine d_ h Z (λh=>?_) λh=>?_
   ·refine aR<|aA Z<|aB Z<|aB Z<|aL<|aQ<|bG<|aI<|aI<|bG<|aI ?_;cases h;exact eD () Z Z (RV.tmp Z) (RV.tmp Z) .nil aG.nil
   refine dM<|jH<|aO<|aA Z<|cD Z<|aB Z<|aL ?_;exact tV (wI .i64 (d+(1:Int))) () h SF Z
  refine eS ?_;exact bU () (()) h SF .nil (aG.refl _ _)
 intro b k h;unfold yI at h;refine aR<|aB Z<|aB Z<|aL<|aQ ?_;cases h;exact eD () Z Z (RV.tmp Z) (RV.tmp Z) (bA.refl _) aG.nil
end Go.Proofs.YtahgemjmgopleaaGreatDoor
namespace Go.Proofs.YtahgemjmgopleaaGreatDoor
open Go Go.Sx Go.Gx
set_option maxRecDepth 100000
def Dy (a:Nat):Option Bool:=some (true)
theorem Yn:aV Tryz.prog 18:=Tryz.call18
theorem YI:okT (Hm Hf gp2 4000 18 [] H0)=true:=by kernel_rfl
theorem Nn (a:Nat) (r:Bool) (h:Dy a=some r):
  aW Tryz.prog 18 #[] [Gb 0 (cellsOf J_ Au)] (λx:Unit=>Value.bool (r)) (λx l=>l) (λ_ l=>l):=by
 obtain rfl:=Option.some.inj h;obtain⟨d,c⟩:=ZQ YI;rw[Cz Cq]at c;exact Pz TP Yn (λf e h=>h.bool_inv) λT b=>Is (gs:=gl T) akE c (gH.start b Z) .nil
end Go.Proofs.YtahgemjmgopleaaGreatDoor
namespace Go.Proofs.YtahgemjmgopleaaGreatDoor
open Go.Sx
def nR  (a:Bool):Option Bool:=
 some (a)
def zX (U:Nat) (a:Sr) (b:Sr):Option Bool:=
 if a.1=b.1 then(if a.2.1=b.2.1 then(if a.2.2.1=b.2.2.1 then(if a.2.2.2.1=b.2.2.2.1 then(if(a.2.2.2.2.1==b.2.2.2.2.1)=true then(Option.bind (Ci U a.2.2.2.2.2 b.2.2.2.2.2) λc=>(nR  (c)))else(nR  (false)))else(nR  (false)))else(nR  (false)))else(nR  (false)))else(nR  (false))
theorem aen:aV Tryz.prog 19:=Tryz.call19
theorem Qj (U:Nat) {a:Sr} {b:Sr} (g:Value)  (m:lU)  (i:Value)  (n:lU) (r:Bool) (h:zX U a b=some r):
  aW Tryz.prog 19 #[Value.agg #[vU (a.1),vI (a.2.1),vI (a.2.2.1),vI (a.2.2.2.1),vB (a.2.2.2.2.1),g],Value.agg #[vU (b.1),vI (b.2.1),vI (b.2.2.1),vI (b.2.2.2.1),vB (b.2.2.2.2.1),i]] [S2 bX g m a.2.2.2.2.2,S2 bX i n b.2.2.2.2.2] (λx:Unit=>vB (r)) (λx l=>l) (λ_ l=>l):=by
 refine aW.of Tryz.func19 Z Tryz.ntmps19 Z λc=>?_;refine aR<|aH (aN.box (cs:=[vU (a.1),vI (a.2.1),vI (a.2.2.1),vI (a.2.2.2.1),vB (a.2.2.2.2.1),g]) Z Z) Z λp=>aH (aN.box (cs:=[vU (b.1),vI (b.2.1),vI (b.2.2.1),vI (b.2.2.2.1),vB (b.2.2.2.2.1),i]) Z Z) Z λq=>aB Z<|aL<|aK<|dK (λe=>nR  e=some r) (λe k=>[(4,vB (e))]) (λe k=>[]) ?_ ?_
 ·refine aO<|bN Z<|dL 1 Z<|bN Z<|dL 0 Z<|bS Z<|aA Z ?_;refine wN h Z (λ_ h=>?_) λ_ h=>?_
  ·refine aM Z (cQ Z Z Z Z Z) Z<|aM Z (dN 1 Z Z Z Z Z) Z<|aM Z (cQ Z Z Z Z Z) Z<|aM Z (dN 0 Z Z Z Z Z) Z<|aM Z (Cy Z Z) Z<|dA Z<|aA Z ?_;refine wN h Z (λ_ h=>?_) λ_ h=>?_
   ·refine aM Z (cQ Z Z Z Z Z) Z<|aM Z (dN 1 Z Z Z Z Z) Z<|aM Z (cQ Z Z Z Z Z) Z<|aM Z (dN 0 Z Z Z Z Z) Z<|aM Z (Cy Z Z) Z<|dA Z<|aA Z ?_;refine wN h Z (λ_ h=>?_) λ_ h=>?_
    ·refine aM Z (cQ Z Z Z Z Z) Z<|aM Z (dN 1 Z Z Z Z Z) Z<|aM Z (cQ Z Z Z Z Z) Z<|aM Z (dN 0 Z Z Z Z Z) Z<|aM Z (Cy Z Z) Z<|dA Z<|aA Z ?_;refine wN h Z (λ_ h=>?_) λ_ h=>?_
     ·refine aM Z (cQ Z Z Z Z Z) Z<|aM Z (dN 1 Z Z Z Z Z) Z<|aM Z (cQ Z Z Z Z Z) Z<|aM Z (dN 0 Z Z Z Z Z) Z<|aM Z (aeb Z Z Z) Z<|dA Z<|aA Z ?_;refine rZ (by exact rfl) (by exact rfl) (λd=>?_) (λd=>?_)
      ·have h:=LS d h;refine aM Z (cQ Z Z Z Z Z) Z<|aM Z (dN 1 Z Z Z Z Z) Z<|aM Z (cQ Z Z Z Z Z) Z<|aM Z (dN 0 Z Z Z Z Z) Z<|dZ h λf j h=>kJ Z (zBg aev (P_ U g m i n f j) Z (jP [0,1] Z)) Z λo=>dA Z<|aB Z<|aL ?_;exact bU (f) () h SF .nil (aG.refl _ _)
      have h:=HU d h;refine aE Z<|aE Z<|aE Z<|aE Z<|aE Z<|c_ Z<|aB Z<|aL ?_;exact bU (false) () h SF .nil (aG.refl _ _)
     refine aE Z<|aE Z<|aE Z<|aE Z<|aE Z<|c_ Z<|aA Z<|aE Z<|aE Z<|aE Z<|aE Z<|aE Z<|c_ Z<|aB Z<|aL ?_;exact bU (false) () h SF .nil (aG.refl _ _)
    refine aE Z<|aE Z<|aE Z<|aE Z<|aE Z<|c_ Z<|aA Z<|aE Z<|aE Z<|aE Z<|aE Z<|aE Z<|c_ Z<|aA Z<|aE Z<|aE Z<|aE Z<|aE Z<|aE Z<|c_ Z<|aB Z<|aL ?_;exact bU (false) () h SF .nil (aG.refl _ _)
   refine aE Z<|aE Z<|aE Z<|aE Z<|aE Z<|c_ Z<|aA Z<|aE Z<|aE Z<|aE Z<|aE Z<|aE Z<|c_ Z<|aA Z<|aE Z<|aE Z<|aE Z<|aE Z<|aE Z<|c_ Z<|aA Z<|aE Z<|aE Z<|aE Z<|aE Z<|aE Z<|c_ Z<|aB Z<|aL ?_;exact bU (false) () h SF .nil (aG.refl _ _)
  refine aE Z<|aE Z<|aE Z<|aE Z<|aE Z<|c_ Z<|aA Z<|aE Z<|aE Z<|aE Z<|aE Z<|aE Z<|c_ Z<|aA Z<|aE Z<|aE Z<|aE Z<|aE Z<|aE Z<|c_ Z<|aA Z<|aE Z<|aE Z<|aE Z<|aE Z<|aE Z<|c_ Z<|aA Z<|aE Z<|aE Z<|aE Z<|aE Z<|aE Z<|c_ Z<|aB Z<|aL ?_;exact bU (false) () h SF .nil (aG.refl _ _)
 intro e k h;unfold nR at h;refine aQ ?_;cases h;exact fW Z
noncomputable def fP  (a:Bool):Option Bool:=
 some (a)
noncomputable def iW (U:Nat) (o:aX) (p:Int) (q:aX) (n:Int) (d:Fv) (i:ByteArray×(List (ByteArray×Int×Int×Int×Int×Int))):Option Bool:=
 Option.bind (kV U i.1) λa=>Yf a.2.2 λh=>(Option.bind (mL U ((d.1,d.2)) i.2 o) λe=>(Option.bind (gT U p (6:Int)) λf=>(Option.bind (rJ U q (25:Int)) λg=>(Option.bind (jG U ((a.1,a.2.1,h)) ((d.1,d.2)) f e g) λb=>(Option.bind (gS U ((a.1,a.2.1,h)) ((d.1,d.2)) f e g) λc=>(Option.bind (iN U ((a.1,a.2.1,h)) ((d.1,d.2)) f e g n) λj=>(Option.bind (oP U ((a.1,a.2.1,h)) ((d.1,d.2)) f e g n) λk=>(Option.bind (Dy U) λl=>(if l=true then(if b.2=c.2 then(Option.bind (zX U ((b.1.1,b.1.2.1,b.1.2.2.1,b.1.2.2.2.1,b.1.2.2.2.2.1,b.1.2.2.2.2.2)) ((c.1.1,c.1.2.1,c.1.2.2.1,c.1.2.2.2.1,c.1.2.2.2.2.1,c.1.2.2.2.2.2))) λm=>(if m=true then(if j.2=k.2 then(fP  (decide (j.1=k.1)))else(fP  (false)))else(fP  (false))))else(fP  (false)))else(fP  (false)))))))))))
noncomputable def qF (U:Nat) (a:Es) (e:aX) (f:Int) (g:aX) (h:Int) (j:Bool):Option Bool:=
 Option.bind (pX U ((a.1,a.2.1,a.2.2.1,a.2.2.2.1,a.2.2.2.2.1,a.2.2.2.2.2)) (7:Int)) λi=>(Option.bind (sD U) λk=>(Option.bind (EP U) λb=>(if j=true then(Option.bind (vK U) λc=>(Option.bind (EQ U) λd=>(iW U e f g h i (c,d))))else(iW U e f g h i (k,b)))))
theorem DR (U:Nat) {p0:Es} {p1:aX} {p2:Int} {p3:aX} {p4:Int} {p5:Bool} (K:Value)  (L:Value)  (M:Value)  (N:Value)  (O:Value) (r:Bool) (h:qF U p0 p1 p2 p3 p4 p5=some r):
  aW Tryz.prog 3 #[Value.agg #[vI (p0.1),K,L,M,vB (p0.2.2.2.2.1),vB (p0.2.2.2.2.2)],N,vI (p2),O,vU (p4),vB (p5)] [Sl bX K p0.2.1,Sl bX L p0.2.2.1,Sl bX M p0.2.2.2.1,Sl bX N p1,Sl wR O p3,Gb 0 (cellsOf J_ Au)] (λx:Unit=>vB (r)) (λx l=>l) (λ_ l=>l):=by
 refine aW.of Tryz.func3 Z Tryz.ntmps3 Z λc=>?_;refine aR<|aH (aN.box (cs:=[vI (p0.1),K,L,M,vB (p0.2.2.2.2.1),vB (p0.2.2.2.2.2)]) Z Z) Z λb1=>aB Z<|aL<|aR<|cM 0 Z<|dZ h λt w3 h=>aH (zBg agG (IT U K L M t w3) Z (jP [0,1,2] Z)) Z λd=>aH (aN.alloc (cs:=[lL,lL]) Z Z) Z λb5=>bE (Know.one ((aT (aD.res 1 Z) dD))) λQ=>bE (Know.one (aD.sl (bB (i:=2) (j:=3) Z Z cG))) λR=>bF 0 (vs:=[d.1,d.2.1]) Z Z (bR Q (bR R Z)) Z Z Z<|aL<|aR<|dZ h λr8 w9 h=>aH (zBg agH (H_ U  r8 w9) Z .nil) Z λaq=>dZ h λF X h=>aH (zBg agI (Qh U  F X) Z .nil) Z λal=>aB Z<|aB Z<|aL<|aK<|CM (B:=Value) (λk=>iW U p1 p2 p3 p4 t k=some r) (λk n=>[(1,N),(2,vI (p2)),(3,O),(4,vU (p4)),(13,vP b5),(14,vS (k.1)),(15,n)]) (λk n=>[Ar kP n k.2,cJ b5 [d.1,d.2.1] 29,Ar cS d.1 t.1,Ar fE.raw d.2.1 d.2.2,k_ dO d.2.2 t.2]) ?_ ?_
 ·refine aR<|aA Z<|aL ?_;refine tT h Z (λ_ h=>?_) λ_ h=>?_
  ·refine aO<|dZ h λI aj h=>aH (zBg agJ (JN U  I aj) Z .nil) Z λay=>dZ h λJ ak h=>aH (zBg agK (Qi U  J ak) Z .nil) Z λam=>aB Z<|aB Z<|aL ?_;exact bU (I,J) (am) h SF (bA.ix [0,2,3,4,5] Z Z) (aG.refl _ _)
  refine cE ?_;exact bU (r8,F) (al) h SF (bA.ix [0,1,2,3,4] Z Z) (aG.refl _ _)
 intro k n h;refine aR<|aA Z<|dZ h λs Y h=>aH (aN.call Tv (Kz U s Y) Z (kH 5 Z) (λ_ _=>rfl) (λ_ _=>rfl)) Z fun⟨a,b,P,E⟩=>?_;have h:=Wp h P E;refine aH (aN.alloc (cs:=[vS (ByteArray.mk #[]),lL,lL]) Z Z) Z λan=>bE (Know.one ((aD.fact 0 Z))) λz=>bE (Know.one ((aD.fact 1 Z))) λA=>bF 0 (vs:=[vS (s.1),a,b]) Z Z (bR Z (bR z (bR A Z))) Z Z Z<|aL<|aR<|cM 2 Z<|aA Z<|aA Z<|dZ h λq aa h=>aH (zBg aei (MK U d.1 d.2.1 (List.zip d.2.2 t.2) n N q aa) Z (aG.cons (aT (aD.res 3 Z) dD) (aG.cons (bB (i:=4) (j:=5) Z Z cG) (aG.cons (aT (aD.res 1 Z) wG) (jP [6] Z))))) Z λe=>aB Z<|aL<|aR<|aA Z<|dZ h λS ab h=>aH (zBg EG (kN U  S ab) Z .nil) Z λar=>aB Z<|aL<|aR<|aA Z<|dZ h λT ac h=>aH (zBg aej (ML U O T ac) Z (jP [7] Z)) Z λu=>aB Z<|aL<|aR<|cM 3 Z<|cM 5 Z<|aA Z<|aA Z<|aA Z<|dZ h λf ad h=>aH (zBg aek (FA U a b d.1 d.2.1 (List.zip d.2.2 t.2) e.1 (List.zip e.2 q) u f ad) Z (aG.cons (aD.fact 0 Z) (aG.cons (aD.fact 1 Z) (aG.cons (aD.fact 2 Z) (aG.cons (aT (aD.res 6 Z) dD) (aG.cons (bB (i:=7) (j:=8) Z Z cG) (aG.cons (bB (i:=1) (j:=2) Z Z dD) (aG.cons (aT (aD.res 0 Z) cP) (jP [8] Z))))))))) Z λw=>aA Z<|eQ Z<|eQ Z<|aH (aN.alloc (cs:=vD2) Z Z) Z λao=>bE (Know.one (aD.sl (bB (i:=1) (j:=2) Z Z dD))) λC=>bF 0 (vs:=[vU (f.1.1),vI (f.1.2.1),vI (f.1.2.2.1),vI (f.1.2.2.2.1),vB (f.1.2.2.2.2.1),w.1]) Z Z (bR Z (bR Z (bR Z (bR Z (bR Z (bR C Z)))))) Z Z Z<|aB Z<|aL<|aR<|cM 6 Z<|cM 8 Z<|aA Z<|aA Z<|aA Z<|dZ h λg ae h=>aH (zBg Ym (Fq U a b d.1 d.2.1 (List.zip d.2.2 t.2) e.1 (List.zip e.2 q) u g ae) Z (aG.cons (aD.fact 0 Z) (aG.cons (aD.fact 1 Z) (aG.cons (aD.fact 2 Z) (aG.cons (aT (aD.res 9 Z) dD) (aG.cons (bB (i:=10) (j:=11) Z Z cG) (aG.cons (bB (i:=4) (j:=5) Z Z dD) (aG.cons (aT (aD.res 3 Z) cP) .nil)))))))) Z λy=>aA Z<|eQ Z<|eQ Z<|aH (aN.alloc (cs:=vD2) Z Z) Z λap=>bE (Know.one (aD.sl (bB (i:=1) (j:=2) Z Z dD))) λD=>bF 0 (vs:=[vU (g.1.1),vI (g.1.2.1),vI (g.1.2.2.1),vI (g.1.2.2.2.1),vB (g.1.2.2.2.2.1),y.1]) Z Z (bR Z (bR Z (bR Z (bR Z (bR Z (bR D Z)))))) Z Z Z<|aB Z<|aL<|aR<|cM 9 Z<|cM 11 Z<|aA Z<|aA Z<|aA Z<|aA Z<|dZ h λG af h=>aH (zBg ael (Gj U a b d.1 d.2.1 (List.zip d.2.2 t.2) e.1 (List.zip e.2 q) u G af) Z (aG.cons (aD.fact 0 Z) (aG.cons (aD.fact 1 Z) (aG.cons (aD.fact 2 Z) (aG.cons (aT (aD.res 12 Z) dD) (aG.cons (bB (i:=13) (j:=14) Z Z cG) (aG.cons (bB (i:=7) (j:=8) Z Z dD) (aG.cons (aT (aD.res 6 Z) cP) (jP [8] Z))))))))) Z λau=>aA Z<|eQ Z<|eQ Z<|aB Z<|aB Z<|aL<|aR<|cM 9 Z<|cM 11 Z<|aA Z<|aA Z<|aA Z<|aA Z<|dZ h λH ag h=>aH (zBg aem (MH U a b d.1 d.2.1 (List.zip d.2.2 t.2) e.1 (List.zip e.2 q) u H ag) Z (aG.cons (aD.fact 0 Z) (aG.cons (aD.fact 1 Z) (aG.cons (aD.fact 2 Z) (aG.cons (aT (aD.res 12 Z) dD) (aG.cons (bB (i:=13) (j:=14) Z Z cG) (aG.cons (bB (i:=7) (j:=8) Z Z dD) (aG.cons (aT (aD.res 6 Z) cP) .nil)))))))) Z λav=>aA Z<|eQ Z<|eQ Z<|aB Z<|aB Z<|aL<|aK<|FE (B:=Unit) (λm=>fP  m=some r) (λm v=>[(12,vB (m))]) (λm v=>[]) (λm v=>[Sl aP a s.2.1,Sl aJ b P,PF (Value.agg #[vS s.1,a,b]),Sl bX K p0.2.1,Sl bX L p0.2.2.1,Sl bX M p0.2.2.2.1,Sl bX N p1,Sl wR O p3,Gb 0 (cellsOf J_ Au)]) ?_ ?_
 ·refine aO<|dZ h λV ah h=>aH (zBg Yn (Nn U  V ah) Z (jP [8] Z)) Z λaw=>aA Z ?_;refine rZ (by exact rfl) (by exact rfl) (λo=>?_) (λo=>?_)
  ·have h:=LS o h;refine bZ Z<|bZ Z<|aM Z (Cy Z Z) Z<|dA Z<|aA Z ?_;refine wN h Z (λ_ h=>?_) λ_ h=>?_
   ·refine aM Z (lN 3 Z Z Z Z) Z<|aM Z (lN 0 Z Z Z Z) Z<|dZ h λW ai h=>kJ Z (zBg aen (Qj U w.1 (List.zip w.2 f.1.2.2.2.2.2) y.1 (List.zip y.2 g.1.2.2.2.2.2) W ai) Z (aG.cons (bB (i:=4) (j:=5) Z Z dD) (aG.cons (bB (i:=1) (j:=2) Z Z dD) .nil))) Z λax=>dA Z<|aA Z ?_;refine rZ (by exact rfl) (by exact rfl) (λp=>?_) (λp=>?_)
    ·have h:=LS p h;refine bZ Z<|bZ Z<|aM Z (Cy Z Z) Z<|dA Z<|aA Z ?_;refine wN h Z (λ_ h=>?_) λ_ h=>?_
     ·refine bZ Z<|bZ Z<|aM Z (Cy Z Z) Z<|dA Z<|aB Z<|aL ?_;exact bU (decide (G.1=H.1)) () h SF .nil (aG.refl _ _)
     refine aE Z<|aE Z<|aE Z<|c_ Z<|aB Z<|aL ?_;exact bU (false) () h SF .nil (aG.refl _ _)
    have h:=HU p h;refine aE Z<|aE Z<|aE Z<|c_ Z<|aA Z<|aE Z<|aE Z<|aE Z<|c_ Z<|aB Z<|aL ?_;exact bU (false) () h SF .nil (aG.refl _ _)
   refine aE Z<|aE Z<|aE Z<|c_ Z<|aA Z<|aE Z<|aE Z<|aE Z<|c_ Z<|aA Z<|aE Z<|aE Z<|aE Z<|c_ Z<|aB Z<|aL ?_;exact bU (false) () h SF .nil (aG.refl _ _)
  have h:=HU o h;refine aE Z<|aE Z<|aE Z<|c_ Z<|aA Z<|aE Z<|aE Z<|aE Z<|c_ Z<|aA Z<|aE Z<|aE Z<|aE Z<|c_ Z<|aA Z<|aE Z<|aE Z<|aE Z<|c_ Z<|aB Z<|aL ?_;exact bU (false) () h SF .nil (aG.refl _ _)
 intro m v h;unfold fP at h;refine aQ ?_;cases h;exact fW Z
end Go.Proofs.YtahgemjmgopleaaGreatDoor
namespace Go.Proofs.YtahgemjmgopleaaGreatDoor
open Go Go.Sx
theorem Mq {l:aX} {n:Nat} (J:l.length=n):∀(d s a w:Nat) (r:Int),s+d=32->w<4294967296->(∀i,i<s->w.testBit i=false)->(∀i,w.testBit i=true->i<n∧0<=D l i)->d<a->
  ∃g:Int,bK (eP 1000 l) a ((w:Int),r)=some (g,0)∧r<=g∧(∀i,w.testBit i=true->D l i<=g)∧∀q:Int,r<=q->(∀i,w.testBit i=true->D l i<=q)->g<=q:=by
 intro d
 induction d using Nat.strongRecOn with
 | _ d ih =>
  intro s a w r L t o m I;obtain⟨f,rfl⟩:∃f,a=f+1:=⟨a - 1,by omega⟩
  show∃g:Int,eP 1000 l ((w:Int),r) (bK (eP 1000 l) f)=some (g,0)∧_;unfold eP;dsimp only;by_cases e:w=0
  ·subst e;rw[if_neg (by simp)];exact⟨r,rfl,Int.le_refl _,λi h=>by simp at h,λq h _=>h⟩
  ·obtain⟨k,j⟩:=BW e;obtain⟨C,B⟩:=m k j.bit;have u:=Dv t j.bit;have E:s<=k:=Nat.le_of_not_lt λq=>by have:=o k q;rw[j.bit]at this;cases this
   obtain⟨F,v,x,p⟩:=Jt t j;have H:at' l (k:Int)=D l k:=rfl;rw[if_pos (by omega),aZ (Sv 1000 t j),cO (by omega),if_neg (by omega),v];obtain⟨g,y,G,z,A⟩:=ih (32 - (k+1)) (by omega) (k+1) f F (max r (D l k)) (by omega) x (λi c=>by
    rw[p];by_cases q:i=k
    ·simp[q]
    ·rw[j.low i (by omega)];rfl) (λi c=>by
    rw[p,zA1]at c;exact m i c.1) (by omega)
   refine⟨g,y,by omega,λi c=> ?_,λq K b=>A q ?_ λi c=> ?_⟩
   ·by_cases e:i=k
    ·subst e;omega
    ·exact z i (by rw[p,c,zA6 e];rfl)
   ·have:=b k j.bit;omega
   ·rw[p,zA1]at c;exact b i c.1
theorem Uh {l:aX} {n:Nat} (G:l.length=n):∀(d s a w:Nat) (r:Int),s+d=32->w<4294967296->(∀i,i<s->w.testBit i=false)->(∀i,w.testBit i=true->i<n)->(∃i,w.testBit i=true∧D l i<0)->d<a->
  bK (eP 1000 l) a ((w:Int),r)=some (-1,0):=by
 intro d
 induction d using Nat.strongRecOn with
 | _ d ih =>
  intro s a w r H t h c m F;obtain⟨f,rfl⟩:∃f,a=f+1:=⟨a - 1,by omega⟩
  show eP 1000 l ((w:Int),r) (bK (eP 1000 l) f)=some (-1,0);unfold eP;dsimp only;obtain⟨j,u,g⟩:=m;have e:w≠0:=λe=>by subst e;simp at u
  obtain⟨k,b⟩:=BW e;have A:=c k b.bit;have v:=Dv t b.bit;have B:s<=k:=Nat.le_of_not_lt λq=>by have:=h k q;rw[b.bit]at this;cases this
  obtain⟨C,x,y,o⟩:=Jt t b;have E:at' l (k:Int)=D l k:=rfl;rw[if_pos (by omega),aZ (Sv 1000 t b),cO (by omega),x];by_cases z:D l k<0
  ·rw[if_pos (by omega)]
  ·rw[if_neg (by omega)];refine ih (32 - (k+1)) (by omega) (k+1) f C _ (by omega) y (λi p=>by
    rw[o];by_cases q:i=k
    ·simp[q]
    ·rw[b.low i (by omega)];rfl) (λi p=>by
    rw[o,zA1]at p;exact c i p.1) ⟨j,?_,g⟩ (by omega)
   have:j≠k:=λq=>by subst q;exact z g
   rw[o,u,zA6 this];rfl
theorem WI {a b:Nat} (c:a<4294967296) (d:b<4294967296):rV a b=0↔∀i,a.testBit i=true->b.testBit i=true:=by
 constructor
 ·intro h i e;have:(rV a b).testBit i=false:=by rw[h];simp
  rw[AO c d,e]at this;simpa using this
 ·intro h;refine EU λi=> ?_;rw[AO c d,zBe];cases f:a.testBit i with
  |false=>rfl
  |true=>rw[h i f];rfl
theorem acW {g:GR} (a:VG g) {s:Nat} {l:aX} (d:Nr g s g.2.length l) {i:Nat} (c:i<g.2.length) (h:0<=D l i):D l i<(g.2.length:Int):=by
 obtain⟨f,e,k,m⟩:=d.near i c h;obtain⟨n,_,b⟩:=JL a e;have j:=Ct.le a b m;have o:=Ct.lt b c;have p:=d.le i f _ e k (Ct.pos a b c j.1);omega
theorem PX {p:Dr} {g:GR} (hV:VG g) {kind:Int} {c0 c:bO} {ws ens:aX} {ch:lW} {cnt:CT} {d:Nat} (hd:d<4294967296)
  (hX:iC 1000 p g kind c0 ws=some ((tU ch,ens,c,cnt),0)) (hf:iO 1000 p g kind c0 ws=some ((tU ch,ens,c,cnt),0)) (hl:ch.length<=900) (hin:∀t∈ch,∀i,t.testBit i=true->i<g.2.length) (hcl:c.length=g.2.length) {k:Nat} (he:ens.length=k+1) (hk:k<=900):
  ∃s:Int,iN 1000 p g kind c0 ws (d:Int)=some (s,0)∧oP 1000 p g kind c0 ws (d:Int)=some (s,0):=by
 have h24:=hV.n24;have hch:∀t∈ch,t<4294967296:=λt h=>by have:=Hj.lt hV (hin t h);omega
 obtain⟨l,hln,hN⟩:=TZ hV hd;have hll:=hN.len;have hW32:=ZS hch;have hWin:∀i,(IJ ch).testBit i=true->i<g.2.length:=λi hi=>by
  have h:=(Vx i ch).1 hi;unfold l_ at h;obtain⟨t,ht,hb⟩:=List.countP_pos_iff.1 h;exact hin t ht i hb
 have hP:iN 1000 p g kind c0 ws (d:Int)=bK (eP 1000 l) 1000 (((IJ ch:Nat):Int),(-1:Int)):=by
  unfold iN;rw[aZ (show iC 1000 _ _ kind c0 ws=_ from hX)];dsimp only;rw[if_neg (by decide),aZ (show gX 1000 (tU ch,ens,c,cnt)=_ from ZH hch hl ens c cnt),aZ (show lK 1000 _ (d:Int)=_ from hln)]
 have hrec:=RU (g:=g) (p:=p) hf hl (λt ht i hi=>by rw[hcl];exact hin t ht i hi) (by omega) he hk;have hR:oP 1000 p g kind c0 ws (d:Int)=if((IJ ch:Nat):Int)=0 then some (-1,0)else bK (jO 1000 g (d:Int) ((((IJ ch:Nat):Int),((KU (l_ ch) 24:Nat):Int),cnt.2.1,cnt.2.2.2.1,decide (at' ens (k:Int)=0),c),0)) 1000 0:=by
  unfold oP;rw[aZ (show gS 1000 _ _ kind c0 ws=_ from hrec)];dsimp only;rw[if_neg (by decide)]
 rw[hP,hR];by_cases hW0:IJ ch=0
 ·rw[hW0];obtain⟨r',h1,h2,h3,h4⟩:=Mq hll 32 0 1000 0 (-1) (by omega) (by omega) (λi hi=>by omega) (λi hi=>by simp at hi) (by omega);have:=h4 (-1) (by omega) (λi hi=>by simp at hi);obtain rfl:r' = -1:=by omega
  exact⟨-1,h1,if_pos Z⟩
 ·obtain⟨j,hj⟩:=BW hW0;have hjb:=hj.bit;have hreg:∀q:Nat,∃m:Nat,mK 1000 g (d:Int) (q:Int)=some (m:Int)∧(rV (IJ ch) m=0↔∀i,(IJ ch).testBit i=true->0<=D l i∧D l i<=(q:Int)):=λq=>by
   obtain⟨m,hm,e,hb⟩:=PL hV (r:=q) hd;refine⟨m,e,(WI hW32 hm).trans (forall_congr' λi=>imp_congr_right λhi=> ?_)⟩
   rw[hb,hN.ball hV (hWin i hi)]
  rw[if_neg (by omega)];by_cases hall:∀i,(IJ ch).testBit i=true->0<=D l i
  ·obtain⟨r',h1,h2,h3,h4⟩:=Mq hll 32 0 1000 (IJ ch) (-1) (by omega) hW32 (λi hi=>by omega) (λi hi=>⟨hWin i hi,hall i hi⟩) (by omega);have hj0:=hall j hjb;have hj1:=h3 j hjb;have hrn:r'<=(g.2.length:Int) - 1:=h4 _ (by omega) λi hi=>by have:=acW hV hN (hWin i hi) (hall i hi);omega
   obtain⟨k0,rfl⟩:∃k0:Nat,r'=k0:=⟨r'.toNat,by omega⟩
   refine⟨k0,h1,?_⟩
   refine cR (step:=jO 1000 g (d:Int) ((((IJ ch:Nat):Int),((KU (l_ ch) 24:Nat):Int),cnt.2.1,cnt.2.2.2.1,decide (at' ens (k:Int)=0),c),0)) k0 (λq=>(q:Int)) (λq ag hq=> ?_) (λag=> ?_) 1000 (by omega)
   ·obtain⟨m,e,hm⟩:=hreg q;unfold jO;dsimp only;have hne:rV (IJ ch) m≠0:=λz=>by have:=h4 (q:Int) (by omega) λi hi=>(hm.1 z i hi).2;omega
    rw[if_pos (by omega),aZ (show mK 1000 _ (d:Int) (q:Int)=_ from e),uH,if_neg (by omega),dH (by omega)]
   ·obtain⟨m,e,hm⟩:=hreg k0;unfold jO;dsimp only;have hz:rV (IJ ch) m=0:=hm.2 λi hi=>⟨hall i hi,h3 i hi⟩
    rw[if_pos (by omega),aZ (show mK 1000 _ (d:Int) (k0:Int)=_ from e),uH,hz,if_pos (by rfl)]
  ·obtain⟨i,hi⟩:=Classical.not_forall.1 hall;obtain⟨hib,hi0⟩:=Classical.not_imp.1 hi;refine⟨-1,Uh hll 32 0 1000 (IJ ch) (-1) (by omega) hW32 (λi hi=>by omega) hWin ⟨i,hib,by omega⟩ (by omega),?_⟩
   refine cR (step:=jO 1000 g (d:Int) ((((IJ ch:Nat):Int),((KU (l_ ch) 24:Nat):Int),cnt.2.1,cnt.2.2.2.1,decide (at' ens (k:Int)=0),c),0)) g.2.length (λq=>(q:Int)) (λq ag hq=> ?_) (λag=> ?_) 1000 (by omega)
   ·obtain⟨m,e,hm⟩:=hreg q;unfold jO;dsimp only;have hne:rV (IJ ch) m≠0:=λz=>hi0 (hm.1 z i hib).1;rw[if_pos (by omega),aZ (show mK 1000 _ (d:Int) (q:Int)=_ from e),uH,if_neg (by omega),dH (by omega)]
   ·unfold jO yI;dsimp only;rw[if_neg (by omega)]
theorem aak (a:Sr) (h:a.2.2.2.2.2.length<=900) (b:∀v:Nat,v<a.2.2.2.2.2.length->(at' a.2.2.2.2.2 (v:Int)).length<=30):zX 1000 a a=some true:=by
 unfold zX;rw[if_pos Z,if_pos Z,if_pos Z,if_pos Z,if_pos (by simp),aZ (afN _ h b)];rfl
theorem Uo {p:Dr} {g:GR} {R:List RL} (hV:VG g) (hp:kK g p.2.1) (hA:Hl p g R) (hz:p.2.2.map wK=EI R) (hR:qI p.2.1.length R=true) (kind:Int) {c0:bO} (hc0:Jo g c0 p.2.1) {ws:aX} (hws:ws.length<=800) (hw:∀k:Nat,k<ws.length->∃m:Nat,at' ws (k:Int)=(m:Int)∧m<4294967296) {d:Nat} (hd:d<4294967296):
  ∃a e s,jG 1000 p g kind c0 ws=some (a,e)∧gS 1000 p g kind c0 ws=some (a,e)∧iN 1000 p g kind c0 ws (d:Int)=some (s,e)∧oP 1000 p g kind c0 ws (d:Int)=some (s,e)∧zX 1000 a a=some true:=by
 by_cases hk:1<=kind∧kind<=4
 ·obtain⟨hk1,hk4⟩:=hk;obtain⟨k,hS,hL⟩:=TL (p:=p) hV hp hz hR hk1 hk4 hc0 hws hw;have hF:=WO hV hp hA hz hR hk1 hk4 hc0 hws hw hS;obtain⟨hkl,hend,hne⟩:=hS;have hrc:=(PQ hV hp hk1 hk4 hc0 (lv:=kS g) hws hw k hkl hne).1;have hcl:=hrc.len;have hvl:=hp.len;have h24:=hV.n24;have hin:∀t∈(List.range k).map (tX (BE (cC p g) R (kS g)) (kY (cC p g) p.2.1 R) (λe w=>xK g kind e w.toNat) ws c0),∀i,t.testBit i=true->i<g.2.length:=λt ht i hi=>by
   obtain⟨j,hj,rfl⟩:=zB5.1 ht;have hj:=zAn.1 hj;obtain⟨w,hwe,hw32⟩:=hw j (by omega);have heG:Hj g (GE (BE (cC p g) R (kS g)) (kY (cC p g) p.2.1 R) (λe w=>xK g kind e w.toNat) ws c0 j):=FW (cC p g) R (kS g) _;have ht:tX (BE (cC p g) R (kS g)) (kY (cC p g) p.2.1 R) (λe w=>xK g kind e w.toNat) ws c0 j=xK g kind (GE (BE (cC p g) R (kS g)) (kY (cC p g) p.2.1 R) (λe w=>xK g kind e w.toNat) ws c0 j) w:=by
    show xK g kind _ (at' ws (j:Int)).toNat=_;rw[hwe];rfl
   rw[ht]at hi;exact heG i ((PM hV hk1 hk4 heG (hne j hj) hw32).2 i hi)
  have hch:∀t∈(List.range k).map (tX (BE (cC p g) R (kS g)) (kY (cC p g) p.2.1 R) (λe w=>xK g kind e w.toNat) ws c0),t<4294967296:=λt h=>by have:=Hj.lt hV (hin t h);omega
  obtain⟨s,s1,s2⟩:=PX hV hd hL hF (by simp;omega) hin hcl (k:=k) (by simp) (by omega);refine⟨_,0,s,aae hL (by simp;omega) hch (k:=k) (by simp) (by omega),RU hF (by simp;omega) (λt ht i hi=>by rw[hcl];exact hin t ht i hi) (by omega) (k:=k) (by simp) (by omega),s1,s2,aak _ (by dsimp only;omega) λv hv=> ?_⟩
  dsimp only at hv ⊢;have:=hrc.row v (by omega);omega
 ·have hX:=Zj hV hp hk hc0 ws;have hF:=WN hV hp hk hc0 ws;refine⟨(0,0,0,0,false,[]),12,0,?_,?_,?_,?_,aak _ (by decide) λv hv=>absurd hv (Nat.not_lt_zero v)⟩
  ·unfold jG;rw[aZ (show iC 1000 _ _ kind c0 ws=_ from hX)];rfl
  ·unfold gS;rw[aZ (show iO 1000 _ _ kind c0 ws=_ from hF)];rfl
  ·unfold iN;rw[aZ (show iC 1000 _ _ kind c0 ws=_ from hX)];rfl
  ·have hrec:gS 1000 p g kind c0 ws=some ((0,0,0,0,false,[]),12):=by
    unfold gS;rw[aZ (show iO 1000 _ _ kind c0 ws=_ from hF)];rfl
   unfold oP;rw[aZ (show gS 1000 _ _ kind c0 ws=_ from hrec)];rfl
theorem So {g:GR} (hV:VG g) {text nm:ByteArray} {vars:List Jh} {pr:MR} {R:List RL} (hprog:kV 1000 text=some (nm,vars,pr)) (hpr:pr=EI R) (hp:kK g vars) (hA:∀z,Hl (nm,vars,z) g R) (hR:qI vars.length R=true) (raw wishes:aX) (kind:Int)
  (hcfg:∃c0,mL 1000 g vars raw=some c0∧Jo g c0 vars) {d:Nat} (hd:d<4294967296):iW 1000 raw kind wishes (d:Int) g (text,vars)=some true:=by
 obtain⟨c0,hc,hc0⟩:=hcfg;obtain⟨ws,hws,hwl,hwb⟩:=Xt wishes (n:=25) (by omega);subst hpr;unfold iW;rw[aZ hprog];refine abh λz hz=> ?_;obtain⟨a,e,s,h1,h2,h3,h4,h5⟩:=Uo (p:=(nm,vars,z)) hV hp (hA z) hz hR (kind%6) hc0 (ws:=ws) (by omega) hwb hd;rw[aZ (show mL 1000 _ vars raw=some c0 from hc),aZ (wB kind 6 (by omega) (by omega)),aZ (show rJ 1000 wishes 25=_ from hws)];refine(aZ h1).trans ?_;refine(aZ h2).trans ?_;refine(aZ h3).trans ?_;refine(aZ h4).trans ?_;dsimp only;rw[aZ (show Dy 1000=some true from rfl),if_pos Z,if_pos Z];refine(aZ h5).trans ?_;rw[if_pos Z,if_pos Z,zA6 Z];rfl
theorem af_:∀x,x<Gs.length->Cu (at' Gs (x:Int)) ∧ -100000<=(at' Gs (x:Int)).2.2.1∧(at' Gs (x:Int)).2.2.1<=(at' Gs (x:Int)).2.2.2.1:=by
 intro x a;refine⟨VI x a,?_⟩
 obtain rfl:x=0:=by simp[Gs]at a;exact a
 exact⟨by decide,by decide⟩
theorem afZ:∀x,x<Gr.length->Cu (at' Gr (x:Int)) ∧ -100000<=(at' Gr (x:Int)).2.2.1∧(at' Gr (x:Int)).2.2.1<=(at' Gr (x:Int)).2.2.2.1:=by
 intro x a;refine⟨VJ x a,?_⟩
 obtain rfl:x=0:=by simp[Gr]at a;exact a
 exact⟨by decide,by decide⟩
theorem Up (x:Tf) (c:aX) (b:Int) (a:aX) (p4:Int) (p5:Bool) (k:0<=p4) (l:p4<4294967296):qF 1000 x c b a p4 p5=some true:=by
 obtain⟨d,rfl⟩:∃d:Nat,p4=d:=⟨p4.toNat,by omega⟩
 have h:d<4294967296:=by omega
 obtain⟨g,i,f,j⟩:=aef x 7 (by omega) (by omega);have e:VG g:=f.vg;unfold qF;rw[show pX 1000 (x.1,x.2.1,x.2.2.1,x.2.2.2.1,x.2.2.2.2.1,x.2.2.2.2.2) 7=some g from i,aZ Z,aZ (show sD 1000=some HX from rfl),afX,aZ Z];cases p5 with
 |true=>
  rw[if_pos Z,aZ (show vK 1000=some HW from rfl),afY,aZ Z];exact So e (Z_ 1000) (R:=RC) Z (ahw e) (λz=>afG e Z) adi c a b (NT e Gr c (by decide) afZ) h
 |false=>
  rw[if_neg (by decide)];exact So e (aaa 1000) (R:=RM) Z (ahx e) (λz=>afH e Z) adj c a b (NT e Gs c (by decide) af_) h
end Go.Proofs.YtahgemjmgopleaaGreatDoor
namespace Go.Sx
open Go.RowKit Go.ChangeShapes Go.WideShapes Go.ChangeAt Go.Proofs Go.Joins Go.Deep
section
variable {H:Type} {enc:TypeId×Value->H} {P:Program} {w:World} {base:Nat} {spare:Nat->Bool} {held:Bool}
theorem Nb {a:Type} (l:List a) (d:a):l=(List.range l.length).map λi=>l.getD i d:=by
 apply List.ext_getElem?;intro i;by_cases h:i<l.length
 ·simp[h]
 ·simp[h]
theorem ZR {r:Reach} {x:Nat} {t:TypeId} {b:Array Field} {v:Value} {d:DataW H} {p:List MemPlace} (s:P.underlying t=some (.struct b)) (c:oneCellFields P b=true) (z:P.cellsOf t=b.size)
  (E:Value.okWide P w r x t v) (h:DataW.Trod enc P w base spare held t v d p):
  ∃(V:Nat->Value) (Y:Nat->DataW H×List MemPlace) (n:Nat),v = .agg ((List.range b.size).map V).toArray∧∀(i:Nat) (f:Field),b[i]? = some f->DataW.trod enc P w base spare held n f.type [V i]=some (Y i):=by
 obtain⟨a,rfl,l⟩:=okWide_struct s E;obtain⟨m,A⟩:=h;obtain⟨u,n,_,_,_,q,B⟩:=DataW.trod_struct s A;refine⟨λi=>a.toList.getD i undef,λi=>u.getD i (.nil,[]),n,?_,λi f j=> ?_⟩
 ·congr 1;apply Array.toList_inj.1;show a.toList=(List.range b.size).map λi=>a.toList.getD i undef;have y:b.size=a.toList.length:=by rw[<-z,<-l];rfl
  rw[y];exact Nb a.toList undef
 ·have D:i<b.size:=(zA9.1 j).1;obtain⟨o,k⟩:=hone_of c i f j;have g:=B i f j;have e:(Value.cells (.agg a)).toList=a.toList:=rfl;have C:i<a.toList.length:=by rw[Array.length_toList];omega
  rw[o,k,e,take1_drop _ _ undef C]at g;rw[g];have F:i<u.length:=by omega
  simp[F]
theorem Zy {k:IntKind} {e:TypeId} (a:P.underlying e=some (.int k)) {n:Nat} {v:Value} {x:DataW H×List MemPlace} (h:DataW.trod enc P w base spare held n e [v]=some x):∃y:Int,v = .int k y:=by
 obtain⟨y,b,_,_⟩:=DataW.trod_int a h;exact⟨y,by simpa using b⟩
theorem Oe {e:TypeId} (a:P.underlying e=some .bool) {n:Nat} {v:Value} {x:DataW H×List MemPlace} (h:DataW.trod enc P w base spare held n e [v]=some x):∃y:Bool,v = .bool y:=by
 obtain⟨y,b,_⟩:=DataW.trod_bool a h;exact⟨y,by simpa using b⟩
theorem aaM {n:Int} (h:(Lit.int .u32 n).wf=true):0<=n∧n<4294967296:=by
 simp only[Lit.wf,zA1,zA8]at h;have a:IntKind.u32.min=0:=by decide
 have b:IntKind.u32.max=4294967295:=by decide
 omega
end
end Go.Sx
section
set_option maxRecDepth 100000
namespace Go.Sx
open Go.RowKit Go.ChangeShapes Go.WideShapes Go.ChangeAt Go.Proofs Go.Joins
theorem TM {P:Program} {W:World} {n:String} {b m t B:Nat} {k:IntKind} {a:aX} (h:laidMet P [(n,.agg (a.map λx=> .lit (.int k x)))] W) (I:P.globalNamed n=some b)
  (ht:(P.globals[b]?).map (·.type)=some t) (hu:P.underlying t=some (.array m B)) (w:P.underlying B=some (.int k)) (S:P.cellsOf B=1) (u:P.cellsOf t=m) (hm:0<m):(Gb b (cellsOf (fE.int k) a)).p W (λ_=>True):=by
 obtain⟨ps,⟨g,t2,j,F,p,q,C,D,E,M,e5,N⟩,aa,d⟩:=h;rw[I]at C;cases C;rw[ht]at D;cases D;refine⟨trivial,?_⟩
 obtain⟨L,ml,_,l,Y,y,V⟩:=DataW.trod_array hu M;simp only[Prod.mk.injEq,DataW.agg.injEq]at l;have e:a.length=m:=by rw[<-y];simpa using congrArg List.length l.1
 have U:j.size=m:=by rw[<-u,<-Y];simp
 have v:j.toList=cellsOf (fE.int k) a:=by
  refine List.ext_getElem? λi=> ?_;by_cases X:i<m
  ·have o:=V i X;rw[S,Nat.mul_one]at o;have J:a[i]? = some (a[i]'(by omega)):=zA0 _;have G:=yV (fE.int k) a i _ J 0 _ Z;rw[show i*(fE.int k).sz+0=i from Nat.mul_one i]at G;rw[G];have K:L[i]? = some (L[i]'(by omega)):=zA0 _;rw[K]at o;obtain⟨z,hz,A,_⟩:=DataW.trod_int w o;have s:j.toList[i]? = some (.int k z):=by
    have:=congrArg (·[0]?) hz;simpa [zAr,zAs]using this
   rw[s];have r:=congrArg (·[i]?) l.1;simp only[List.getElem?_map,J,K,Option.map_some,Option.some.injEq]at r;rw[A]at r;have O:a[i]=z:=by simpa using r
   rw[O]
  ·rw[zAt (by simp;omega),zAt (by rw[fK,e];show m*1<=i;omega)]
 have f:MemPlace.cell b 0∈ps:=by
  rw[N];refine List.mem_append_left _ (List.mem_append_left _ ?_);exact zB5.2 ⟨0,by simp;omega,rfl⟩
 obtain⟨⟨c,T,H⟩,_⟩:=d b 0 f;refine⟨T,?_⟩
 have Q:c=j:=by
  have R:(W.var? P n)=some c:=by unfold World.var?;rw[I];simp[H]
  rw[R]at E;exact Option.some.inj E
 rw[H,Q,<-v]
theorem Rp {H:Type} {enc:TypeId×Value->H} {os:Os} (D:List (String×DataW Unit)) (N:(D.all λx=>x.2.handleName?.isNone)=true) (l:os.Started) {f:FuncId} {c:Func} {s:ChangeSpec} {r:Bool} (L:Tryz.prog.funcs[f]? = some c) (n:Tryz.prog.inits.idxOf? f=none)
  (o:(c.params.toList.all λt=>Tryz.prog.readableRec t&&decide (t<Tryz.prog.types.size))=true) (A:c.resultTypes = #[4]) (k:s.vars=[])
  (u:∀a:List (DataW H),a.length=c.params.toList.length->s.fn H a={results:=[.lit (.bool true)],args:=a})
  (m:∃(w:World) (b:Tape) (i:Input),w.os=os∧(w.forCall b i).Shaped Tryz.prog∧i.vars=[]∧Input.okWide Tryz.prog (w.forCall b i) .any w.heap.size f i∧
   ((s.pre enc Tryz.prog c [] false (w.forCall b i).memory i.args∧laidMetH Tryz.prog D (w.forCall b i).memory)∧sizedMet enc Tryz.prog c (OpenSpec.ofChange s) false (w.forCall b i).memory i.args)∧({}:Assume).holds Tryz.prog (lone (Frame.enter Tryz.prog f i.args .normal) [] (w.forCall b i)))
  (E:∀(W:World) (g:Nat) (args:Array Value) (a:List (DataW H)) (p:List MemPlace),laidMetH Tryz.prog D W->(∀(j:Nat) t v,c.params[j]? = some t->args[j]? = some v->Value.okWide Tryz.prog W .any g t v)->
   DataW.TrodAll enc Tryz.prog W 0 (λ_=>true) true c.params.toList args.toList a p->Calls Tryz.prog f args W λe P=>e = .returned (.bool true)∧NF W P):
  ReturnsInHanded {} Go.Proofs.YtahgemjmgopleaaGreatDoor.Tryz.pinned.checked os f .any (λw args=>(s.pre enc Tryz.prog c [] false w args∧laidMetH Tryz.prog D w)∧sizedMet enc Tryz.prog c (OpenSpec.ofChange s) false w args) (s.post enc Tryz.prog c false r false false):=by
 refine returnsInHanded_of_change_and (C:=Go.Proofs.YtahgemjmgopleaaGreatDoor.Tryz.pinned.checked) (X:=λw _=>laidMetH Tryz.prog D w) (λ_ _ _ U h=>by rw[MakeChecks.laidMetH_plain _ _ _ N]at h ⊢;exact h.of_heap U) akN l n L m ?_;intro W g args a Y G B J _ _ T _;have M:=J.lt;have K:=J;obtain⟨p,q,I,Q,rfl,_,_⟩:=J;rw[k]at Q;obtain⟨rfl,rfl⟩:=trodVars_none Q;refine(E W g args a p T B I).mono ?_;rintro e P ⟨rfl,R⟩;refine⟨_,rfl,?_⟩
 have z:a.length=c.params.toList.length:=by
  have:∀(F:List TypeId) (y:gV) (a:List (DataW H)) (p:List MemPlace),DataW.TrodAll enc Tryz.prog W 0 (λ_=>true) true F y a p->a.length=F.length:=by
   intro F
   induction F with
   |nil=>intro y a p h;cases y<;>cases a<;>first|rfl|exact h.elim
   | cons t F ih =>
    intro y a p h;cases y with
    |nil=>exact h.elim
    |cons v y=>
     cases a with
     |nil=>exact h.elim
     |cons d a=>obtain⟨_,_,_,S,_⟩:=h;simp[ih y a _ S]
  exact this _ _ _ _ I
 have O:s.fn H (a++[])={results:=[.lit (.bool true)],args:=a}:=by rw[List.append_nil];exact u a z
 refine⟨a,[],p++[],[],p,[],K,?_,?_,?_,R.frame _,λh=>by cases h⟩
 ·rw[O,A];exact trodAll_mk1 (shut_bool Tryz.underlying4 true)
 ·rw[O];exact HB ahd R _ _ _ _ o I (λx V=>M x (List.mem_append_left _ V))
 ·rw[O,k];exact rfl
theorem WX {P:Program} {n:String} {k:IntKind} {a:aX} {W:World} (h:laidMetH P [(n,.agg (a.map λx=> .lit (.int k x)))] W):laidMet P [(n,.agg (a.map λx=> .lit (.int k x)))] W:=by
 rw[MakeChecks.laidMetH_plain _ _ _ (by rfl)]at h;exact h
end Go.Sx
end
