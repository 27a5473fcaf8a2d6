/- Models and proofs. Conditions: none. -/
import Derived.Test.YtahgemjmgopleaaGreatDoorZCTe5
import Derived.Test.YtahgemjmgopleaaGreatDoorZCTe2
set_option linter.unusedVariables false
set_option linter.unusedSimpArgs false
set_option maxHeartbeats 4000000
set_option maxRecDepth 20000
namespace Go.Proofs.YtahgemjmgopleaaGreatDoor
open Go.Sx
def qS  (a:Unit):Option Bool:=
 some (true)
def qT (b:Int) (a:(Int)->Option Bool) (c:Unit):Option Bool:=
 a (wI .i64 (b+(1:Int)))
def jA (d:eY) (b:Int) (e:(Int)->Option Bool) (a:Int) (c:(Int)->Option Bool):Option Bool:=
 if a<b then(ck (0<=a∧a<(d.length:Int)) (ck (0<=b∧b<(d.length:Int)) (if((at' d a).1)=((at' d b).1)then(some (false))else(c (wI .i64 (a+(1:Int)))))))else(qT b e (()))
def kR (U:Nat) (d:eY) (c:Int) (b:(Int)->Option Bool) (a:Bool):Option Bool:=
 if a=true then(some (false))else(bK (jA d c b) U (0:Int))
def gY (U:Nat) (b:eY) (f:Int) (g:Int) (a:Int) (c:(Int)->Option Bool):Option Bool:=
 if a<(b.length:Int)then(ck (0<=a∧a<(b.length:Int)) (Option.bind (qG U ((at' b a).1) (0:Int) (wI .i64 (g - (1:Int)))) λd=>(if(!d)=true then(kR U b a c (true))else(ck (0<=a∧a<(b.length:Int)) (if((at' b a).1)=f then(kR U b a c (true))else(ck (0<=a∧a<(b.length:Int)) (Option.bind (qG U ((at' b a).2) (1:Int) (15:Int)) λe=>(kR U b a c ((!e))))))))))else(qS  (()))
def lT (U:Nat) (a:eY) (b:Int) (c:Int):Option Bool:=
 bK (gY U a b c) U (0:Int)
theorem abr:aV Tryz.prog 118:=Tryz.call118
theorem Ia (U:Nat) {i:eY} {e:Int} {f:Int} (j:Value) (r:Bool) (h:lT U i e f=some r):
  aW Tryz.prog 118 #[j,vI (e),vI (f)] [Sl bD j i] (λx:Unit=>vB (r)) (λx l=>l) (λ_ l=>l):=by
 refine aW.of Tryz.func118 Z Tryz.ntmps118 Z λc=>?_;unfold lT at h;refine aR<|aB Z<|aL<|aK<|dK (λv=>qS  v=some r) (λv D=>[]) (λv D=>[]) ?_ ?_
 ·refine aR<|aB Z<|aL<|aS<|eB (gY U i e f) (λd E=>[(0,j),(1,vI (e)),(2,vI (f)),(7,vI (d))]) (λd E=>[]) (0:Int) () h SF (bA.refl _) ?_;intro y d E h;refine aK<|aR<|aA Z<|aA Z<|iF (aD.fact 0 Z) Z<|cZ Z<|aL ?_;refine d_ h Z (λh=>?_) λh=>?_
  ·refine cE<|aK<|dK (λw=>qT d (bK (gY U i e f) y) w=some r) (λw k=>[(0,j),(1,vI (e)),(2,vI (f)),(7,vI (d))]) (λw k=>[]) ?_ ?_
   ·refine aS<|aK<|aK<|dK (λa=>kR U i d (bK (gY U i e f) y) a=some r) (λa m=>[(0,j),(1,vI (e)),(2,vI (f)),(7,vI (d)),(41,vB (a))]) (λa m=>[]) ?_ ?_
    ·refine aO<|aA Z<|aA Z<|dW h λq h=>aC (a_ Z Z (aD.fact 0 Z) Z Z q) Z<|aC (dX Z Z Z Z Z) Z<|aC (e_ Z (aD.fact 0 Z) Z Z Z jS q) Z<|aA Z<|aC (lO Z Z) Z<|dZ h λA B h=>aH (zBg HM (yT U  A B) Z .nil) Z λG=>aC (lV Z) Z<|aA Z ?_;refine rZ (by exact rfl) (by exact rfl) (λb=>?_) (λb=>?_)
     ·have h:=LS b h;refine aE Z<|aE Z<|aE Z<|aE Z<|aE Z<|aE Z<|aE Z<|dA Z<|aA Z<|aE Z<|aE Z<|aE Z<|aE Z<|aE Z<|aE Z<|aE Z<|dA Z<|aL ?_;exact eW (true) () h SF Z
     have h:=HU b h;refine bZ Z<|bZ Z<|dW h λs h=>aM Z (a_ Z Z (aD.fact 0 Z) Z Z s) Z<|aM Z (dX Z Z Z Z Z) Z<|aM Z (e_ Z (aD.fact 0 Z) Z Z Z jS s) Z<|bZ Z<|aM Z (Cy Z Z) Z<|c_ Z<|aA Z ?_;refine wN h Z (λ_ h=>?_) λ_ h=>?_
     ·refine aE Z<|aE Z<|aE Z<|aE Z<|aE Z<|aE Z<|aE Z<|dA Z<|aL ?_;exact eW (true) () h SF Z
     refine bZ Z<|bZ Z<|dW h λt h=>aM Z (a_ Z Z (aD.fact 0 Z) Z Z t) Z<|aM Z (dX Z Z Z Z Z) Z<|aM Z (e_ Z (aD.fact 0 Z) Z Z Z Ez t) Z<|dZ h λu C h=>kJ Z (zBg HM (yT U  u C) Z .nil) Z λH=>aM Z (lV Z) Z<|c_ Z<|aL ?_;exact eW ((!u)) () h SF Z
    intro a m h;refine tT h Z (λ_ h=>?_) λ_ h=>?_
    ·refine aR<|aB Z<|aL<|aQ<|aI<|bG<|aI<|aI<|bG<|aI ?_;cases h;exact fW Z
    refine cE<|aR<|aB Z<|aL<|aS<|eB (jA i d (bK (gY U i e f) y)) (λg n=>[(0,j),(1,vI (e)),(2,vI (f)),(7,vI (d)),(8,vI (g))]) (λg n=>[]) (0:Int) () h SF (bA.refl _) ?_;intro F g n h;refine aK<|aR<|aA Z<|aA Z<|cZ Z<|aL ?_;refine d_ h Z (λh=>?_) λh=>?_
    ·refine cE<|aK<|aS<|aK ?_;refine JR.start [0,0,3,7,15,0,0,96,224,480,1023] 10 mixedOrders (by decide +kernel) ?_;refine zBj (by exact rfl) ?_;refine aY Z<|aY Z<|dW h λo h=>bM Z .nil (kH 0 Z) (a_ Z Z (aD.fact 0 Z) Z Z o) aU.z<|iY Z (dX Z Z Z Z Z)<|bM Z .nil (kH 0 Z) (e_ Z (aD.fact 0 Z) Z Z Z jS o) aU.z<|aY Z<|aY Z<|dW h λp h=>bM Z .nil (kH 0 Z) (a_ Z Z (aD.fact 0 Z) Z Z p) aU.z<|iY Z (dX Z Z Z Z Z)<|bM Z .nil (kH 0 Z) (e_ Z (aD.fact 0 Z) Z Z Z jS p) aU.z<|bP 10 Z Z<|bS Z<|aL ?_;refine d_ h Z (λh=>?_) λh=>?_
     ·refine aR<|aB Z<|aL<|aQ<|bG<|aI<|aI<|bG<|bG<|aI<|aI<|bG<|aI ?_;cases h;exact fW Z
     refine dM<|jH<|aO<|aA Z<|cD Z<|aB Z<|aL ?_;exact tV (wI .i64 (g+(1:Int))) () h SF Z
    refine qC<|eZ<|eZ<|wQ<|jH ?_;exact eW () (()) h SF Z
   intro w k h;unfold qT at h;refine aO<|aA Z<|cD Z<|aB Z<|aL ?_;exact tV (wI .i64 (d+(1:Int))) () h SF Z
  refine eS ?_;exact eW () (()) h SF Z
 intro v D h;unfold qS at h;refine aR<|aB Z<|aL<|aQ ?_;cases h;exact fW Z
def DI  (a:Unit):Option (Int):=
 some (-1:Int)
def Bd (c:cW) (a:Int) (e:Int) (b:Int) (d:(Int)->Option (Int)):Option (Int):=
 ck (0<=a∧a<(c.2.length:Int)) (if b<((at' c.2 a).length:Int)then(ck (0<=a∧a<(c.2.length:Int)) (ck (0<=b∧b<((at' c.2 a).length:Int)) (if((at' (at' c.2 a) b).1)=e then(some (b))else(d (wI .i64 (b+(1:Int)))))))else(DI  (())))
def vL (U:Nat) (a:cW) (b:Int) (c:Int):Option (Int):=
 bK (Bd a b c) U (0:Int)
theorem UH:aV Tryz.prog 119:=Tryz.call119
theorem IZ (U:Nat) {g:cW} {i:Int} {j:Int} (k:Value)  (m:Value)  (q:iX) (r:Int) (h:vL U g i j=some r):
  aW Tryz.prog 119 #[Value.agg #[k,m],vI (i),vI (j)] [Sl bX k g.1,S2 bD m q g.2] (λx:Unit=>vI (r)) (λx l=>l) (λ_ l=>l):=by
 refine aW.of Tryz.func119 Z Tryz.ntmps119 Z λc=>?_;unfold vL at h;refine aR<|aH (aN.box (cs:=[k,m]) Z Z) Z λn=>aB Z<|aL<|aK<|dK (λd=>DI  d=some r) (λd o=>[]) (λd o=>[]) ?_ ?_
 ·refine aR<|aB Z<|aL<|aS<|eB (Bd g i j) (λe p=>[(1,vI (i)),(2,vI (j)),(3,vP n),(7,vI (e))]) (λe p=>[cJ n [k,m] 29]) (0:Int) () h SF (bA.refl _) ?_;intro s e p h;refine aK<|aR<|aA Z<|bN Z<|dL 0 Z<|aA Z<|dW h λf h=>aC (cY Z Z (aD.fact 1 Z) Z Z f) Z<|aC (cL Z (aD.fact 1 Z) Z Z f) Z<|aC (fX Z (zBi (aD.fact 1 Z) f.1 f.2) Z) Z<|cZ Z<|aL ?_;refine d_ h Z (λh=>?_) λh=>?_
  ·refine cE<|aK<|aS<|aR<|bN Z<|dL 0 Z<|aA Z<|dW h λa h=>aC (cY Z Z (aD.fact 1 Z) Z Z a) Z<|aC (cL Z (aD.fact 1 Z) Z Z a) Z<|aA Z<|dW h λb h=>aC (a_ Z Z (zBi (aD.fact 1 Z) a.1 a.2) Z Z b) Z<|aC (dX Z Z Z Z Z) Z<|aC (e_ Z (zBi (aD.fact 1 Z) a.1 a.2) Z Z Z jS b) Z<|aA Z<|bS Z<|aL ?_;refine d_ h Z (λh=>?_) λh=>?_
   ·refine aR<|aA Z<|aB Z<|aL<|aQ<|bG<|aI<|aI<|bG<|aI ?_;cases h;exact oA Z
   refine dM<|jH<|aO<|aA Z<|cD Z<|aB Z<|aL ?_;exact tV (wI .i64 (e+(1:Int))) () h SF Z
  refine eS ?_;exact bU () (()) h SF .nil (aG.refl _ _)
 intro d o h;unfold DI at h;refine aR<|aB Z<|aL<|aQ ?_;cases h;exact fW Z
def BR  (a:Unit):Option (Int):=
 some (-1:Int)
def xV (c:cW) (d:Int) (e:Int) (a:Int) (b:(Int)->Option (Int)):Option (Int):=
 if a<((at' c.2 d).length:Int)then(ck (0<=a∧a<((at' c.2 d).length:Int)) (if((at' (at' c.2 d) a).1)=e then(some (a))else(b (wI .i64 (a+(1:Int))))))else(BR  (()))
def uJ (U:Nat) (b:cW) (a:Int) (c:Int):Option (Int):=
 ck (0<=a∧a<(b.2.length:Int)) (bK (xV b a c) U (0:Int))
theorem abJ:aV Tryz.prog 172:=Tryz.call172
theorem Mv (U:Nat) {a:cW} {b:Int} {i:Int} (j:Value)  (k:Value)  (o:iX) (r:Int) (h:uJ U a b i=some r):
  aW Tryz.prog 172 #[Value.agg #[j,k],vI (b),vI (i)] [Sl bX j a.1,S2 bD k o a.2] (λx:Unit=>vI (r)) (λx l=>l) (λ_ l=>l):=by
 refine aW.of Tryz.func172 Z Tryz.ntmps172 Z λc=>?_;refine aR<|aH (aN.box (cs:=[j,k]) Z Z) Z λq=>aB Z<|aL<|aK<|dK (λg=>BR  g=some r) (λg m=>[]) (λg m=>[]) ?_ ?_
 ·refine aR<|bN Z<|dL 0 Z<|aA Z<|dW h λe h=>aC (cY Z Z (aD.fact 1 Z) Z Z e) Z<|aC (cL Z (aD.fact 1 Z) Z Z e) Z<|aC (fX Z (zBi (aD.fact 1 Z) e.1 e.2) Z) Z<|aA Z<|aL<|aS<|eB (xV a b i) (λd n=>[(2,vI (i)),(13,(at' o b).1),(14,vI ((at' a.2 b).length:Int)),(15,vI (d))]) (λd n=>[]) (0:Int) () h SF .nil ?_;intro s d n h;refine aR<|cZ Z<|aL<|aK ?_;refine d_ h Z (λh=>?_) λh=>?_
  ·refine cE<|aK<|aS<|aR<|aA Z<|dW h λf h=>aC (a_ Z Z (zBi (aD.fact 1 Z) e.1 e.2) Z Z f) Z<|aC (jT (cs:=[vI ((at' (at' a.2 b) d).1),vI ((at' (at' a.2 b) d).2)]) Z (zBi (aD.fact 1 Z) e.1 e.2) cG Z Z Z Z f) Z<|aH (aN.alloc (cs:=XA) Z Z) Z λp=>aB Z<|bF 0 (vs:=[vI ((at' (at' a.2 b) d).1),vI ((at' (at' a.2 b) d).2)]) Z Z Z Z Z Z<|aL<|aR<|bN Z<|dL 0 Z<|aA Z<|bS Z<|aL ?_;refine d_ h Z (λh=>?_) λh=>?_
   ·refine aR<|aA Z<|aB Z<|aL<|aQ<|bG<|aI<|aI<|bG<|aI ?_;cases h;exact oA Z
   refine dM<|jH<|aO<|cD Z<|aA Z<|aL ?_;exact nC (wI .i64 (d+(1:Int))) () h SF .nil (aG.refl _ _)
  refine eS ?_;exact eW () (()) h SF Z
 intro g m h;unfold BR at h;refine aR<|aB Z<|aL<|aQ ?_;cases h;exact fW Z
def wJ (b:cW) (a:h_):Option uZ:=
 some ((b.1,a))
def nD (U:Nat) (b:Es) (d:cW) (a:Int×h_) (c:(Int×h_)->Option uZ) (e:Bool):Option uZ:=
 if e=true then(ck (0<=a.1∧a.1<(b.2.1.length:Int)) (Option.bind (gT U (at' b.2.1 a.1) (d.2.length:Int)) λf=>(ck (0<=(wI .i64 (a.1+(1:Int)))∧(wI .i64 (a.1+(1:Int)))<(b.2.1.length:Int)) (Option.bind (gT U (at' b.2.1 (wI .i64 (a.1+(1:Int)))) (d.2.length:Int)) λg=>(Option.bind (uM U b.2.2.1 a.1) λh=>(Option.bind (gT U h (15:Int)) λi=>(Option.bind (oL U ((b.1,b.2.1,b.2.2.1,b.2.2.2.1,b.2.2.2.2.1,b.2.2.2.2.2)) ((d.1,a.2)) f g (wI .i64 ((1:Int)+i))) λj=>(c ((wI .i64 (a.1+(2:Int))),j)))))))))else(wJ d (a.2))
def qO (U:Nat) (c:Es) (d:cW) (a:Int×h_) (b:(Int×h_)->Option uZ):Option uZ:=
 if(wI .i64 (a.1+(1:Int)))<(c.2.1.length:Int)then(nD U c d a b (decide (a.1<(60:Int))))else(nD U c d a b (false))
def lS (U:Nat) (b:Es) (a:cW):Option uZ:=
 bK (qO U b a) U ((a.2.length:Int),a.2)
theorem Yp:aV Tryz.prog 28:=Tryz.call28
theorem CV (U:Nat) {a:Es} {e:cW} (n:Value)  (m:Value)  (o:Value)  (f:Value)  (g:Value)  (O:gV) (r:Fv) (h:lS U a e=some r):
  HG Tryz.prog 28 #[Value.agg #[vI (a.1),n,m,o,vB (a.2.2.2.2.1),vB (a.2.2.2.2.2)],Value.agg #[f,g]] [Ar cS f e.1,Ar fE.raw g O,k_ dO O e.2] [Sl bX n a.2.1,Sl bX m a.2.2.1,Sl bX o a.2.2.2.1] (λx:Ss=>Value.agg #[x.1,x.2.1]) (λx l=>Ar cS x.1 r.1::Ar fE.raw x.2.1 x.2.2::k_ dO x.2.2 r.2::l):=by
 refine HG.of (vs:=[Value.agg #[vI (a.1),n,m,o,vB (a.2.2.2.2.1),vB (a.2.2.2.2.2)],Value.agg #[f,g]]) Tryz.func28 Z Tryz.ntmps28 Z λc=>?_;unfold lS at h;refine aR<|aH (aN.box (cs:=[vI (a.1),n,m,o,vB (a.2.2.2.2.1),vB (a.2.2.2.2.2)]) Z Z) Z λv=>aH (aN.box (cs:=[f,g]) Z Z) Z λq=>aH (aN.alloc (cs:=[lL,lL]) Z Z) Z λs=>aL<|aR<|bN Z<|dL 1 Z<|aC (gM Z (bB (i:=4) (j:=5) Z Z cG) Z) Z<|aB Z<|aL<|aK<|FE (B:=gV) (λt=>wJ e t=some r) (λt u=>[(3,vP q),(4,vP s)]) (λt u=>[cJ s [lL,lL] 29,cJ q [f,g] 29,Ar cS f e.1,Ar fE.raw g u,k_ dO u t]) (λt u=>[Sl bX n a.2.1,Sl bX m a.2.2.1,Sl bX o a.2.2.2.1]) ?_ ?_
 ·refine aR<|aA Z<|aB Z<|aL<|aS<|KD (B:=gV) (qO U a e) (λb d=>[(2,vP v),(3,vP q),(4,vP s),(5,vI (e.2.length:Int)),(6,vI (b.1))]) (λb d=>[cJ s [lL,lL] 29,cJ q [f,g] 29,cJ v [vI (a.1),n,m,o,vB (a.2.2.2.2.1),vB (a.2.2.2.2.2)] 24,Ar cS f e.1,Ar fE.raw g d,k_ dO d b.2]) (λb d=>[Sl bX n a.2.1,Sl bX m a.2.2.1,Sl bX o a.2.2.2.1]) ((e.2.length:Int),e.2) (O) h SF (bA.refl _) (aG.refl _ _) ?_;intro J b d h;refine aK<|aK<|FE (B:=Unit) (λk=>nD U a e b (bK (qO U a e) J) k=some r) (λk p=>[(2,vP v),(3,vP q),(4,vP s),(5,vI (e.2.length:Int)),(6,vI (b.1)),(20,vB (k))]) (λk p=>[cJ s [lL,lL] 29,cJ q [f,g] 29,cJ v [vI (a.1),n,m,o,vB (a.2.2.2.2.1),vB (a.2.2.2.2.2)] 24,Ar cS f e.1,Ar fE.raw g d,k_ dO d b.2]) (λk p=>[Sl bX n a.2.1,Sl bX m a.2.2.1,Sl bX o a.2.2.2.1]) ?_ ?_
  ·refine aO<|aA Z<|cD Z<|bN Z<|dL 2 Z<|iF (aD.fact 0 Z) Z<|cZ Z<|aA Z ?_;refine wN h Z (λ_ h=>?_) λ_ h=>?_
   ·refine bZ Z<|aM Z (BD Z Z) Z<|dA Z<|aL ?_;exact eW (decide (b.1<(60:Int))) () h SF Z
   refine aE Z<|aE Z<|c_ Z<|aL ?_;exact eW (false) () h SF Z
  intro k p h;refine tT h Z (λ_ h=>?_) λ_ h=>?_
  ·refine cE<|aK<|aS ?_;refine JR.start [0,0,0,4,0,28,60,0,252,0,512,0,2048,7680,15872,0,65532,0,131072,0,1048572,2097148,4194300,8388607] 23 mixedOrders (by decide +kernel) ?_;refine zBj (by exact rfl) ?_;refine gK 2 Z<|gK 1 Z<|cB Z<|fD 2 Z<|aY Z<|dW h λE h=>bM Z .nil (kH 0 Z) (a_ Z Z (aD.fact 0 Z) Z Z E) aU.z<|bM Z .nil (kH 0 Z) (bY Z (aD.fact 0 Z) Z Z Z eH E) aU.z<|aY Z<|dZ h λK w h=>zBh Z Z Z (zBg EG (kN U  K w) Z .nil) Z (λP=>(kG [([1],[]),([2],[])] Z)) λP=>iY Z (cQ Z Z Z Z Z)<|bM Z (bA.cons 2 Z .nil) .nil (dN 0 Z Z Z Z Z) (aU.h (bA.ix [2] Z Z) .nil aU.z)<|iY Z (oC Z)<|iY Z (yR Z Z)<|dW h λF h=>bM Z .nil (kH 0 Z) (a_ Z Z (aD.fact 0 Z) Z Z F) (aU.h .nil (kH 0 Z) aU.z)<|bM Z .nil (kH 0 Z) (bY Z (aD.fact 0 Z) Z Z Z eH F) (aU.h .nil (kH 0 Z) aU.z)<|iY Z (oC Z)<|dZ h λL y h=>zBh Z Z Z (zBg EG (kN U  L y) Z .nil) Z (λQ=>(kG [([1],[]),([2],[])] Z)) λQ=>iY Z (cQ Z Z Z Z Z)<|bM Z (bA.cons 2 Z .nil) .nil (dN 0 Z Z Z Z Z) (aU.h (bA.ix [2] Z Z) .nil (aU.h (bA.ix [2] Z Z) .nil aU.z))<|iY Z (oC Z)<|dZ h λM A h=>zBh Z Z Z (zBg Lt (CZ U m M A) Z (jP [1] Z)) Z (λR=>(kG [([1],[]),([2],[])] Z)) λR=>dZ h λN C h=>zBh Z Z Z (zBg EG (kN U  N C) Z .nil) Z (λS=>(kG [([1],[]),([2],[])] Z)) λS=>iY Z (yR Z Z)<|bP 23 Z Z<|dZ h λG D h=>aH (Ey (Min:=[Ar fE.raw g d,k_ dO d b.2]) (Mr:=[cJ s [lL,lL] 29,cJ q [f,g] 29,cJ v [vI (a.1),n,m,o,vB (a.2.2.2.2.1),vB (a.2.2.2.2.2)] 24,Ar cS f e.1]) Yx (CU U n m o f g d G D) Z (bA.ix [4,5,0,1,2,3] Z Z) (aG.cons (aD.fact 0 Z) (aG.cons (aD.fact 1 Z) (aG.cons (aD.fact 2 Z) (aG.cons (aT (aD.res 3 Z) dD) .nil)))) (λ_ _=>rfl)) Z λT=>eN<|jH<|aO<|aA Z<|cD Z<|aB Z<|aL ?_;exact nC ((wI .i64 (b.1+(2:Int))),G) (T) h SF (bA.ix [2,3,4,5,0,1] Z Z) (aG.refl _ _)
  refine eS ?_;exact bU (b.2) (d) h SF (bA.ix [0,1,3,4,5] Z Z) (aG.refl _ _)
 intro t u h;unfold wJ at h;refine aR<|cM 1 Z<|bE (Know.one ((aT (aD.res 2 Z) dD))) λH=>bE (Know.one (aD.sl (bB (i:=3) (j:=4) Z Z cG))) λI=>bF 0 (vs:=[f,g]) Z Z (bR H (bR I Z)) Z Z Z<|aL<|aQ ?_;cases h;exact gE (f,g,u) Z Z (RV.cell 0 Z Z Z Z) (bA.ix [2,3,4] Z Z) aG.nil
def mW (U:Nat) (a:Es) (d:Int):Option uZ:=
 Option.bind (oK U ((a.1,a.2.1,a.2.2.1,a.2.2.2.1,a.2.2.2.2.1,a.2.2.2.2.2)) d) λb=>(Option.bind (lS U ((a.1,a.2.1,a.2.2.1,a.2.2.2.1,a.2.2.2.2.1,a.2.2.2.2.2)) ((b.1,b.2))) λc=>(some ((c.1,c.2))))
theorem aeo:aV Tryz.prog 27:=Tryz.call27
theorem En (U:Nat) {a:Es} {o:Int} (d:Value)  (e:Value)  (f:Value) (r:Fv) (h:mW U a o=some r):
  aW Tryz.prog 27 #[Value.agg #[vI (a.1),d,e,f,vB (a.2.2.2.2.1),vB (a.2.2.2.2.2)],vI (o)] [Sl bX d a.2.1,Sl bX e a.2.2.1,Sl bX f a.2.2.2.1] (λx:Ss=>Value.agg #[x.1,x.2.1]) (λx l=>Ar cS x.1 r.1::Ar fE.raw x.2.1 x.2.2::k_ dO x.2.2 r.2::l) (λ_ l=>l):=by
 refine aW.of Tryz.func27 Z Tryz.ntmps27 Z λc=>?_;refine aR<|aH (aN.box (cs:=[vI (a.1),d,e,f,vB (a.2.2.2.2.1),vB (a.2.2.2.2.2)]) Z Z) Z λp=>aH (aN.alloc (cs:=[lL,lL]) Z Z) Z λq=>aL<|aK ?_;refine JR.start [0,0,0,6,15,31] 4 mixedOrders (by decide +kernel) ?_;refine zBj (by exact rfl) ?_;refine gK 1 Z<|gK 1 Z<|aY Z<|dZ h λn t h=>zBh Z Z Z (zBg Ys (CS U d e f n t) Z (jP [0,1,2] Z)) Z (λb=>(kG [([4],[])] Z)) λb=>bP 4 Z Z<|dZ h λs u h=>aH (Ey (Min:=[Ar cS b.1 n.1,Ar fE.raw b.2.1 b.2.2,k_ dO b.2.2 n.2]) (Mr:=[cJ q [lL,lL] 29,cJ p [vI (a.1),d,e,f,vB (a.2.2.2.2.1),vB (a.2.2.2.2.2)] 24]) Yp (CV U d e f b.1 b.2.1 b.2.2 s u) Z (bA.refl _) (jP [0,1,2] Z) (λ_ _=>rfl)) Z λk=>bE (Know.one ((aT (aD.res 0 Z) dD))) λm=>bE (Know.one (aD.sl (bB (i:=1) (j:=2) Z Z cG))) λg=>bF 3 (vs:=[k.1,k.2.1]) Z Z (bR m (bR g Z)) Z Z Z<|aL<|aQ ?_;cases h;exact gE (k.1,k.2.1,k.2.2) Z Z (RV.cell 3 Z Z Z Z) (bA.ix [0,1,2] Z Z) aG.nil
def oH (U:Nat) (a:cW) (c:Int) (b:Bool):Option aX:=
 if b=true then(some ([]:aX))else(Option.bind (zS U ((a.1,a.2)) c) λd=>(some (d)))
def p_ (U:Nat) (a:cW) (b:Int):Option aX:=
 Option.bind (jJ U ((a.1,a.2))) λc=>(if(!c)=true then(oH U a b (true))else(if b<(0:Int)then(oH U a b (true))else(oH U a b (decide ((a.2.length:Int)<=b)))))
theorem aeF:aV Tryz.prog 71:=Tryz.call71
theorem IX (U:Nat) {f:cW} {g:Int} (b:Value)  (d:Value)  (j:iX) (r:aX) (h:p_ U f g=some r):
  aW Tryz.prog 71 #[Value.agg #[b,d],vI (g)] [Sl bX b f.1,S2 bD d j f.2] (λx:Value=>x) (λx l=>Ar cS x r::l) (λ_ l=>l):=by
 refine aW.of Tryz.func71 Z Tryz.ntmps71 Z λc=>?_;refine aR<|aH (aN.box (cs:=[b,d]) Z Z) Z λk=>aB Z<|aL<|aK<|aK<|dK (λe=>oH U f g e=some r) (λe m=>[(1,vI (g)),(2,vP k),(18,vB (e))]) (λe m=>[cJ k [b,d] 29]) ?_ ?_
 ·refine aO<|cM 0 Z<|dZ h λo i h=>aH (zBg Tz (DO U b d j o i) Z (jP [0,1] Z)) Z λq=>aC (lV Z) Z<|aA Z ?_;refine rZ (by exact rfl) (by exact rfl) (λa=>?_) (λa=>?_)
  ·have h:=LS a h;refine aE Z<|aE Z<|dA Z<|aA Z<|aE Z<|aE Z<|aE Z<|aE Z<|aE Z<|dA Z<|aL ?_;exact eW (true) () h SF Z
  have h:=HU a h;refine bZ Z<|aM Z (BD Z Z) Z<|c_ Z<|aA Z ?_;refine wN h Z (λ_ h=>?_) λ_ h=>?_
  ·refine aE Z<|aE Z<|aE Z<|aE Z<|aE Z<|dA Z<|aL ?_;exact eW (true) () h SF Z
  refine bZ Z<|aM Z (cQ Z Z Z Z Z) Z<|aM Z (dN 0 Z Z Z Z Z) Z<|aM Z (gM Z (aD.fact 1 Z) Z) Z<|aM Z (wC Z Z) Z<|c_ Z<|aL ?_;exact eW (decide ((f.2.length:Int)<=g)) () h SF Z
 intro e m h;refine tT h Z (λ_ h=>?_) λ_ h=>?_
 ·refine aR<|aB Z<|aL<|aQ<|aI<|gF (cK cS) ?_;cases h;exact gE (lL) Z Z (RV.tmp Z) (bA.ix [0] Z Z) aG.nil
 refine cE<|aR<|cM 0 Z<|aA Z<|dZ h λn p h=>aH (zBg abq (Mw U b d j n p) Z (jP [0,1] Z)) Z λs=>aB Z<|aL<|aQ ?_;cases h;exact gE (s) Z Z (RV.tmp Z) (bA.ix [0] Z Z) aG.nil
def nL  (a:aX):Option aX:=
 some (a)
def iQ (b:qA) (a:wF->Option aX) (c:aX):Option aX:=
 a ((wI .i64 (b.1+(1:Int))),c)
def iR (b:qA) (a:wF->Option aX) (c:aX):Option aX:=
 a ((wI .i64 (b.1+(1:Int))),c)
def iS (d:aX) (a:qA) (b:wF->Option aX) (c:Bool):Option aX:=
 if c=true then(ck (0<=a.1∧a.1<(a.2.length:Int)) (iR a b (List.set a.2 (Int.toNat a.1) (at' d a.1))))else(iR a b (a.2))
def fF (e:qA) (d:wF->Option aX) (b:aX) (a:qA) (c:wF->Option aX):Option aX:=
 if a.1<(b.length:Int)then(ck (0<=a.1∧a.1<(b.length:Int)) (if(0:Int)<=(at' b a.1)then(ck (0<=a.1∧a.1<(a.2.length:Int)) (if(at' a.2 a.1)<(0:Int)then(iS b a c (true))else(ck (0<=a.1∧a.1<(a.2.length:Int)) (iS b a c (decide ((at' b a.1)<(at' a.2 a.1)))))))else(iS b a c (false))))else(iQ e d (a.2))
def eI (U:Nat) (c:cW) (e:Int) (a:qA) (b:wF->Option aX):Option aX:=
 if a.1<(c.1.length:Int)then(ck (0<=a.1) (if(eG .u32 (mZ .u32 e a.1) (1:Int))=(0:Int)then(iQ a b (a.2))else(Option.bind (p_ U ((c.1,c.2)) a.1) λd=>(bK (fF a b d) U ((0:Int),a.2)))))else(nL  (a.2))
def nK (U:Nat) (b:cW) (c:Int) (a:aX):Option aX:=
 bK (eI U b c) U ((0:Int),a)
def kL (U:Nat) (c:cW) (d:Int) (a:qA) (b:wF->Option aX):Option aX:=
 if a.1<((List.replicate (Int.toNat (List.length c.1:Int)) (0:Int)).length:Int)then(ck (0<=a.1∧a.1<(a.2.length:Int)) (b ((wI .i64 (a.1+(1:Int))),(List.set a.2 (Int.toNat a.1) (-1:Int)))))else(nK U c d (a.2))
def lK (U:Nat) (a:cW) (b:Int):Option aX:=
 ck (0<=(a.1.length:Int)∧(a.1.length:Int)<=1099511627) (bK (kL U a b) U ((0:Int),(List.replicate (Int.toNat (a.1.length:Int)) (0:Int))))
theorem aet:aV Tryz.prog 37:=Tryz.call37
theorem FB (U:Nat) {g:cW} {j:Int} (q:Value)  (s:Value)  (N:iX) (r:aX) (h:lK U g j=some r):
  aW Tryz.prog 37 #[Value.agg #[q,s],vU (j)] [Sl bX q g.1,S2 bD s N g.2] (λx:Value=>x) (λx l=>Ar cS x r::l) (λ_ l=>l):=by
 refine aW.of Tryz.func37 Z Tryz.ntmps37 Z λc=>?_;refine aR<|aH (aN.box (cs:=[q,s]) Z Z) Z λk=>aB Z<|aL<|aR<|bN Z<|dL 0 Z<|iF (aD.fact 0 Z) Z<|dW h λO h=>aH (r_ (e:=cS) (0:Int) Z Z Z Z O Z Z Z) Z λi=>aB Z<|aL<|aK<|dK (λu=>nK U g j u=some r) (λu L=>[(1,vU (j)),(2,vP k),(5,i)]) (λu L=>[Ar cS i u,cJ k [q,s] 29]) ?_ ?_
 ·refine aR<|aA Z<|aC (fX Z (aT (aD.res 0 Z) dD) Z) Z<|aA Z<|aL<|aS<|eB (kL U g j) (λf C=>[(1,vU (j)),(2,vP k),(5,i),(15,vI ((List.replicate (Int.toNat (List.length g.1:Int)) (0:Int)).length:Int)),(16,vI (f.1))]) (λf C=>[Ar cS i f.2,cJ k [q,s] 29]) ((0:Int),(List.replicate (Int.toNat (g.1.length:Int)) (0:Int))) () h SF (bA.refl _) ?_;intro P f C h;refine aR<|cZ Z<|aL<|aK ?_;refine d_ h Z (λh=>?_) λh=>?_
  ·refine cE<|aK<|aS<|aR<|aA Z<|aB Z<|aL<|aO<|aA Z<|aA Z<|dW h λH h=>aC (a_ Z Z (aT (aD.res 0 Z) dD) Z Z H) Z<|zF 0 (-1:Int) H Z Z Z Z Z Z Z<|eN<|jH<|aO<|cD Z<|aA Z<|aL ?_;exact tV ((wI .i64 (f.1+(1:Int))),(List.set f.2 (Int.toNat f.1) (-1:Int))) () h SF Z
  refine eS ?_;exact eW (f.2) () h SF Z
 intro u L h;unfold nK at h;refine aK<|dK (λv=>nL  v=some r) (λv M=>[(5,i)]) (λv M=>[Ar cS i v]) ?_ ?_
 ·refine aR<|bN Z<|dL 1 Z<|iF (aD.fact 0 Z) Z<|aA Z<|aL<|aS<|eB (eI U g j) (λb w=>[(1,vU (j)),(2,vP k),(5,i),(25,vI (g.1.length:Int)),(26,vI (b.1))]) (λb w=>[Ar cS i b.2,cJ k [q,s] 29]) ((0:Int),u) () h SF (bA.refl _) ?_;intro t b w h;refine aR<|cZ Z<|aL<|aK ?_;refine d_ h Z (λh=>?_) λh=>?_
  ·refine cE<|aK<|dK (λm=>iQ b (bK (eI U g j) t) m=some r) (λm y=>[(1,vU (j)),(2,vP k),(5,i),(25,vI (g.1.length:Int)),(26,vI (b.1))]) (λm y=>[Ar cS i m,cJ k [q,s] 29]) ?_ ?_
   ·refine aS<|aR<|aA Z<|aB Z<|aL<|aK<|aR<|aA Z<|aA Z<|dW h λJ h=>aC (Iq Z Z J) Z<|wE Z<|bS Z<|aL ?_;refine d_ h Z (λh=>?_) λh=>?_
    ·refine qC<|eZ<|wQ<|Cd ?_;exact eW (b.2) () h SF Z
    refine cE<|aR<|cM 1 Z<|aA Z<|dZ h λd K h=>aH (zBg aeF (IX U q s N d K) Z (jP [0,1] Z)) Z λo=>aC (fX Z (aT (aD.res 0 Z) dD) Z) Z<|aA Z<|aL<|aS<|eB (fF b (bK (eI U g j) t) d) (λa z=>[(1,vU (j)),(2,vP k),(5,i),(25,vI (g.1.length:Int)),(26,vI (b.1)),(36,o),(37,vI (d.length:Int)),(38,vI (a.1))]) (λa z=>[Ar cS o d,Ar cS i a.2,cJ k [q,s] 29]) ((0:Int),b.2) () h SF (bA.refl _) ?_;intro I a z h;refine aR<|cZ Z<|aL<|aK ?_;refine d_ h Z (λh=>?_) λh=>?_
    ·refine cE<|aK<|dK (λn=>iR a (bK (fF b (bK (eI U g j) t) d) I) n=some r) (λn A=>[(1,vU (j)),(2,vP k),(5,i),(25,vI (g.1.length:Int)),(26,vI (b.1)),(36,o),(37,vI (d.length:Int)),(38,vI (a.1))]) (λn A=>[Ar cS o d,Ar cS i n,cJ k [q,s] 29]) ?_ ?_
     ·refine aS<|aR<|aA Z<|dW h λD h=>aC (a_ Z Z (aT (aD.res 0 Z) dD) Z Z D) Z<|aC (bY Z (aT (aD.res 0 Z) dD) Z Z Z eH D) Z<|aB Z<|aB Z<|aL<|aK<|dK (λp=>iS d a (bK (fF b (bK (eI U g j) t) d) I) p=some r) (λp B=>[(1,vU (j)),(2,vP k),(5,i),(8,vI (a.1)),(9,vI (at' d a.1)),(25,vI (g.1.length:Int)),(26,vI (b.1)),(36,o),(37,vI (d.length:Int)),(38,vI (a.1)),(59,vB (p))]) (λp B=>[Ar cS o d,Ar cS i a.2,cJ k [q,s] 29]) ?_ ?_
      ·refine aO<|aA Z<|aC (wC Z Z) Z<|aA Z ?_;refine wN h Z (λ_ h=>?_) λ_ h=>?_
       ·refine bZ Z<|bZ Z<|dW h λF h=>aM Z (a_ Z Z (aT (aD.res 1 Z) dD) Z Z F) Z<|aM Z (bY Z (aT (aD.res 1 Z) dD) Z Z Z eH F) Z<|aM Z (BD Z Z) Z<|bZ Z ?_;refine wN h Z (λ_ h=>?_) λ_ h=>?_
        ·refine aE Z<|aE Z<|aE Z<|aE Z<|aE Z<|aE Z<|aM Z (KH Z Z) Z<|dA Z<|aL ?_;exact eW (true) () h SF Z
        refine bZ Z<|bZ Z<|bZ Z<|dW h λG h=>aM Z (a_ Z Z (aT (aD.res 1 Z) dD) Z Z G) Z<|aM Z (bY Z (aT (aD.res 1 Z) dD) Z Z Z eH G) Z<|aM Z (BD Z Z) Z<|aM Z (Ip Z Z) Z<|dA Z<|aL ?_;exact eW (decide ((at' d a.1)<(at' a.2 a.1))) () h SF Z
       refine aE Z<|aE Z<|aE Z<|aE Z<|aE Z<|aE Z<|Wj (h:= ?_);refine Wj (h:= ?_);refine Wj (h:= ?_);refine Wj (h:= ?_);refine Wj (h:= ?_);refine Wj (h:= ?_);refine aE Z<|c_ Z<|aL ?_;exact eW (false) () h SF Z
      intro p B h;refine tT h Z (λ_ h=>?_) λ_ h=>?_
      ·refine aO<|aA Z<|aA Z<|aA Z<|dW h λE h=>aC (a_ Z Z (aT (aD.res 1 Z) dD) Z Z E) Z<|zF 1 (at' d a.1) E Z Z Z Z Z Z Z<|eN<|jH ?_;exact eW (List.set a.2 (Int.toNat a.1) (at' d a.1)) () h SF Z
      refine dM<|jH ?_;exact eW (a.2) () h SF Z
     intro n A h;unfold iR at h;refine aO<|cD Z<|aA Z<|aL ?_;exact tV ((wI .i64 (a.1+(1:Int))),n) () h SF Z
    refine qC<|eZ<|eZ<|wQ<|jH ?_;exact bU (a.2) () h SF (bA.ix [1,2] Z Z) (aG.refl _ _)
   intro m y h;unfold iQ at h;refine aO<|cD Z<|aA Z<|aL ?_;exact tV ((wI .i64 (b.1+(1:Int))),m) () h SF Z
  refine eS ?_;exact bU (b.2) () h SF (bA.ix [0] Z Z) (aG.refl _ _)
 intro v M h;unfold nL at h;refine aR<|aA Z<|aB Z<|aL<|aQ ?_;cases h;exact gE (i) Z Z (RV.tmp Z) (bA.refl _) aG.nil
def uP  (a:Unit):Option Bool:=
 some (true)
def uQ (b:Int) (a:(Int)->Option Bool) (c:Unit):Option Bool:=
 a (wI .i64 (b+(1:Int)))
def uR (b:Int) (a:(Int)->Option Bool) (c:Bool):Option Bool:=
 if c=true then(some (false))else(a (wI .i64 (b+(1:Int))))
def fL (U:Nat) (c:cW) (a:Int) (f:(Int)->Option Bool) (b:Int) (e:(Int)->Option Bool):Option Bool:=
 ck (0<=a∧a<(c.2.length:Int)) (if b<((at' c.2 a).length:Int)then(ck (0<=a∧a<(c.2.length:Int)) (ck (0<=b∧b<((at' c.2 a).length:Int)) (Option.bind (vL U ((c.1,c.2)) ((at' (at' c.2 a) b).1) a) λd=>(if d<(0:Int)then(uR b e (true))else(ck (0<=((at' (at' c.2 a) b).1)∧((at' (at' c.2 a) b).1)<(c.2.length:Int)) (ck (0<=d∧d<((at' c.2 ((at' (at' c.2 a) b).1)).length:Int)) (uR b e (decide (((at' (at' c.2 ((at' (at' c.2 a) b).1)) d).2)≠((at' (at' c.2 a) b).2))))))))))else(uQ a f (())))
def fZ (U:Nat) (c:cW) (a:Int) (b:(Int)->Option Bool):Option Bool:=
 if a<(c.2.length:Int)then(bK (fL U c a b) U (0:Int))else(uP  (()))
def oU (U:Nat) (a:cW) (b:Unit):Option Bool:=
 bK (fZ U a) U (0:Int)
def uS (b:Int) (a:(Int)->Option Bool) (c:Unit):Option Bool:=
 a (wI .i64 (b+(1:Int)))
def gU (e:cW) (a:Int) (c:(Int)->Option Bool) (b:Int) (d:(Int)->Option Bool):Option Bool:=
 if b<a then(ck (0<=b∧b<(e.1.length:Int)) (ck (0<=a∧a<(e.1.length:Int)) (if(at' e.1 b)=(at' e.1 a)then(some (false))else(d (wI .i64 (b+(1:Int)))))))else(uS a c (()))
def mN (U:Nat) (d:cW) (b:Int) (a:(Int)->Option Bool) (c:Bool):Option Bool:=
 if c=true then(some (false))else(bK (gU d b a) U (0:Int))
def f_ (U:Nat) (b:cW) (a:Int) (c:(Int)->Option Bool):Option Bool:=
 if a<(b.2.length:Int)then(ck (0<=a∧a<(b.1.length:Int)) (Option.bind (qG U (at' b.1 a) (0:Int) (255:Int)) λd=>(if(!d)=true then(mN U b a c (true))else(ck (0<=a∧a<(b.2.length:Int)) (if(b.2.length:Int)<=((at' b.2 a).length:Int)then(mN U b a c (true))else(ck (0<=a∧a<(b.2.length:Int)) (Option.bind (lT U (at' b.2 a) a (b.2.length:Int)) λe=>(mN U b a c ((!e))))))))))else(oU U b (()))
def uO (U:Nat) (b:cW) (a:Bool):Option Bool:=
 if a=true then(some (false))else(bK (f_ U b) U (0:Int))
def gW (U:Nat) (a:cW):Option Bool:=
 Option.bind (qG U (a.2.length:Int) (1:Int) (24:Int)) λb=>(if(!b)=true then(uO U a (true))else(uO U a (decide ((a.1.length:Int)≠(a.2.length:Int)))))
theorem Pb:aV Tryz.prog 72:=Tryz.call72
theorem By (U:Nat) {a:cW} (g:Value)  (i:Value)  (z2:iX) (r:Bool) (h:gW U a=some r):
  aW Tryz.prog 72 #[Value.agg #[g,i]] [Sl bX g a.1,S2 bD i z2 a.2] (λx:Unit=>vB (r)) (λx l=>l) (λ_ l=>l):=by
 refine aW.of Tryz.func72 Z Tryz.ntmps72 Z λc=>?_;refine aR<|aH (aN.box (cs:=[g,i]) Z Z) Z λf=>aB Z<|aL<|aR<|bN Z<|dL 0 Z<|aC (gM Z (aD.fact 1 Z) Z) Z<|aB Z<|aL<|aK<|aK<|dK (λC=>uO U a C=some r) (λC b4=>[(1,vP f),(3,vI (a.2.length:Int)),(22,vB (C))]) (λC b4=>[cJ f [g,i] 29]) ?_ ?_
 ·refine aO<|aA Z<|dZ h λX ac h=>aH (zBg HM (yT U  X ac) Z .nil) Z λai=>aC (lV Z) Z<|aA Z ?_;refine rZ (by exact rfl) (by exact rfl) (λq=>?_) (λq=>?_)
  ·have h:=LS q h;refine aE Z<|aE Z<|aE Z<|aE Z<|aE Z<|dA Z<|aL ?_;exact eW (true) () h SF Z
  have h:=HU q h;refine aM Z (cQ Z Z Z Z Z) Z<|aM Z (dN 0 Z Z Z Z Z) Z<|aM Z (fX Z (aD.fact 0 Z) Z) Z<|bZ Z<|aM Z (Dd Z Z) Z<|c_ Z<|aL ?_;exact eW (decide ((a.1.length:Int)≠(a.2.length:Int))) () h SF Z
 intro C b4 h;refine tT h Z (λ_ h=>?_) λ_ h=>?_
 ·refine aR<|aB Z<|aL<|aQ<|aI ?_;cases h;exact oA Z
 refine cE<|aK<|dK (λS=>oU U a S=some r) (λS b7=>[(1,vP f),(3,vI (a.2.length:Int))]) (λS b7=>[cJ f [g,i] 29]) ?_ ?_
 ·refine aR<|aB Z<|aL<|aS<|eB (f_ U a) (λe H=>[(1,vP f),(3,vI (a.2.length:Int)),(4,vI (e))]) (λe H=>[cJ f [g,i] 29]) (0:Int) () h SF (bA.refl _) ?_;intro B e H h;refine aK<|aR<|aA Z<|aA Z<|cZ Z<|aL ?_;refine d_ h Z (λh=>?_) λh=>?_
  ·refine cE<|aK<|dK (λt=>uS e (bK (f_ U a) B) t=some r) (λt I=>[(1,vP f),(3,vI (a.2.length:Int)),(4,vI (e))]) (λt I=>[cJ f [g,i] 29]) ?_ ?_
   ·refine aS<|aK<|aK<|dK (λn=>mN U a e (bK (f_ U a) B) n=some r) (λn J=>[(1,vP f),(3,vI (a.2.length:Int)),(4,vI (e)),(55,vB (n))]) (λn J=>[cJ f [g,i] 29]) ?_ ?_
    ·refine aO<|bN Z<|dL 0 Z<|aA Z<|dW h λP h=>aC (a_ Z Z (aD.fact 0 Z) Z Z P) Z<|aC (bY Z (aD.fact 0 Z) Z Z Z eH P) Z<|dZ h λW aa h=>aH (zBg HM (yT U  W aa) Z .nil) Z λag=>aC (lV Z) Z<|aA Z ?_;refine rZ (by exact rfl) (by exact rfl) (λp=>?_) (λp=>?_)
     ·have h:=LS p h;refine aE Z<|aE Z<|aE Z<|aE Z<|aE Z<|aE Z<|aE Z<|aE Z<|dA Z<|aA Z<|aE Z<|aE Z<|aE Z<|aE Z<|aE Z<|aE Z<|aE Z<|aE Z<|aE Z<|dA Z<|aL ?_;exact eW (true) () h SF Z
     have h:=HU p h;refine aM Z (cQ Z Z Z Z Z) Z<|aM Z (dN 0 Z Z Z Z Z) Z<|bZ Z<|dW h λw h=>aM Z (cY Z Z (aD.fact 1 Z) Z Z w) Z<|aM Z (cL Z (aD.fact 1 Z) Z Z w) Z<|aM Z (fX Z (zBi (aD.fact 1 Z) w.1 w.2) Z) Z<|bZ Z<|aM Z (wC Z Z) Z<|c_ Z<|aA Z ?_;refine wN h Z (λ_ h=>?_) λ_ h=>?_
     ·refine aE Z<|aE Z<|aE Z<|aE Z<|aE Z<|aE Z<|aE Z<|aE Z<|aE Z<|dA Z<|aL ?_;exact eW (true) () h SF Z
     refine aM Z (cQ Z Z Z Z Z) Z<|aM Z (dN 0 Z Z Z Z Z) Z<|bZ Z<|dW h λy h=>aM Z (cY Z Z (aD.fact 1 Z) Z Z y) Z<|aM Z (cL Z (aD.fact 1 Z) Z Z y) Z<|bZ Z<|bZ Z<|dZ h λR ab h=>kJ Z (zBg abr (Ia U ((at' z2 e).1) R ab) Z (aG.cons (zBi (aD.fact 1 Z) y.1 y.2) .nil)) Z λah=>aM Z (lV Z) Z<|c_ Z<|aL ?_;exact eW ((!R)) () h SF Z
    intro n J h;refine tT h Z (λ_ h=>?_) λ_ h=>?_
    ·refine aR<|aB Z<|aL<|aQ<|aI<|bG<|aI<|aI<|bG<|aI ?_;cases h;exact oA Z
    refine cE<|aR<|aB Z<|aL<|aS<|eB (gU a e (bK (f_ U a) B)) (λu K=>[(1,vP f),(3,vI (a.2.length:Int)),(4,vI (e)),(5,vI (u))]) (λu K=>[cJ f [g,i] 29]) (0:Int) () h SF (bA.refl _) ?_;intro ae u K h;refine aK<|aR<|aA Z<|aA Z<|cZ Z<|aL ?_;refine d_ h Z (λh=>?_) λh=>?_
    ·refine cE<|aK<|aS<|aK ?_;refine JR.start [0,1,0,7,15,0,32,0,224,480,1023] 10 mixedOrders (by decide +kernel) ?_;refine zBj (by exact rfl) ?_;refine cB Z<|fD 0 Z<|aY Z<|dW h λN h=>bM Z .nil (kH 0 Z) (a_ Z Z (aD.fact 0 Z) Z Z N) aU.z<|bM Z .nil (kH 0 Z) (bY Z (aD.fact 0 Z) Z Z Z eH N) aU.z<|cB Z<|fD 0 Z<|aY Z<|dW h λO h=>bM Z .nil (kH 0 Z) (a_ Z Z (aD.fact 0 Z) Z Z O) aU.z<|bM Z .nil (kH 0 Z) (bY Z (aD.fact 0 Z) Z Z Z eH O) aU.z<|bP 10 Z Z<|bS Z<|aL ?_;refine d_ h Z (λh=>?_) λh=>?_
     ·refine aR<|aB Z<|aL<|aQ<|bG<|aI<|aI<|bG<|bG<|aI<|aI<|bG<|aI ?_;cases h;exact oA Z
     refine dM<|jH<|aO<|aA Z<|cD Z<|aB Z<|aL ?_;exact tV (wI .i64 (u+(1:Int))) () h SF Z
    refine qC<|eZ<|eZ<|wQ<|jH ?_;exact eW () (()) h SF Z
   intro t I h;unfold uS at h;refine aO<|aA Z<|cD Z<|aB Z<|aL ?_;exact tV (wI .i64 (e+(1:Int))) () h SF Z
  refine eS ?_;exact eW () (()) h SF Z
 intro S b7 h;unfold oU at h;refine aK<|dK (λT=>uP  T=some r) (λT b9=>[]) (λT b9=>[]) ?_ ?_
 ·refine aR<|aB Z<|aL<|aS<|eB (fZ U a) (λb D=>[(1,vP f),(3,vI (a.2.length:Int)),(6,vI (b))]) (λb D=>[cJ f [g,i] 29]) (0:Int) () h SF (bA.refl _) ?_;intro A b D h;refine aK<|aR<|aA Z<|aA Z<|cZ Z<|aL ?_;refine d_ h Z (λh=>?_) λh=>?_
  ·refine cE<|aK<|dK (λs=>uQ b (bK (fZ U a) A) s=some r) (λs E=>[(1,vP f),(3,vI (a.2.length:Int)),(6,vI (b))]) (λs E=>[cJ f [g,i] 29]) ?_ ?_
   ·refine aS<|aR<|aB Z<|aL<|aS<|eB (fL U a b (bK (fZ U a) A)) (λd F=>[(1,vP f),(3,vI (a.2.length:Int)),(6,vI (b)),(7,vI (d))]) (λd F=>[cJ f [g,i] 29]) (0:Int) () h SF (bA.refl _) ?_;intro V d F h;refine aK<|aR<|aA Z<|bN Z<|dL 0 Z<|aA Z<|dW h λv h=>aC (cY Z Z (aD.fact 1 Z) Z Z v) Z<|aC (cL Z (aD.fact 1 Z) Z Z v) Z<|aC (fX Z (zBi (aD.fact 1 Z) v.1 v.2) Z) Z<|cZ Z<|aL ?_;refine d_ h Z (λh=>?_) λh=>?_
    ·refine cE<|aK<|aS<|aR<|bN Z<|dL 0 Z<|aA Z<|dW h λj h=>aC (cY Z Z (aD.fact 1 Z) Z Z j) Z<|aC (cL Z (aD.fact 1 Z) Z Z j) Z<|aA Z<|dW h λL h=>aC (a_ Z Z (zBi (aD.fact 1 Z) j.1 j.2) Z Z L) Z<|aC (jT (cs:=[vI ((at' (at' a.2 b) d).1),vI ((at' (at' a.2 b) d).2)]) Z (zBi (aD.fact 1 Z) j.1 j.2) cG Z Z Z Z L) Z<|aH (aN.alloc (cs:=XA) Z Z) Z λad=>bF 0 (vs:=[vI ((at' (at' a.2 b) d).1),vI ((at' (at' a.2 b) d).2)]) Z Z Z Z Z Z<|aL<|aR<|cM 1 Z<|bN Z<|dL 0 Z<|aA Z<|dZ h λQ Y h=>aH (zBg UH (IZ U g i z2 Q Y) Z (jP [0,1] Z)) Z λaf=>aB Z<|aL<|aK<|dK (λm=>uR d (bK (fL U a b (bK (fZ U a) A)) V) m=some r) (λm G=>[(1,vP f),(3,vI (a.2.length:Int)),(6,vI (b)),(7,vI (d)),(116,vB (m))]) (λm G=>[cJ f [g,i] 29]) ?_ ?_
     ·refine JR.start [0,1,3,7,15,7,39,127,255,7,1023,2047,4095,7,8199,32767,65535] 15 mixedOrders (by decide +kernel) ?_;refine zBj (by exact rfl) ?_;refine aY Z<|iY Z (BD Z Z)<|aY Z ?_;refine Gy (by exact rfl) (by exact rfl) (by exact rfl) (λo=>?_) (λo=>?_)
      ·have h:=LS o h;refine dQ Z Z Z Z<|dQ Z Z Z Z<|dQ Z Z Z Z<|dQ Z Z Z Z<|dQ Z Z Z Z<|dQ Z Z Z Z<|dQ Z Z Z Z<|dQ Z Z Z Z<|dQ Z Z Z Z<|dQ Z Z Z Z<|dQ Z Z Z Z<|dQ Z Z Z Z<|bP 15 Z Z<|aE Z<|dA Z<|aL ?_;exact bU (true) () h SF (bA.ix [1] Z Z) (aG.refl _ _)
      have h:=ifN o h;refine mY Z .nil .nil (cQ Z Z Z Z Z) aU.z<|mY Z (bA.cons 1 Z .nil) .nil (dN 0 Z Z Z Z Z) aU.z<|mY Z .nil .nil (cQ Z Z Z Z Z) aU.z<|mY Z (bA.cons 0 Z .nil) .nil (dN 0 Z Z Z Z Z) aU.z<|dW h λk h=>mY Z .nil (kH 1 Z) (cY Z Z (aD.fact 0 Z) Z Z k) aU.z<|mY Z .nil (kH 1 Z) (cL Z (aD.fact 0 Z) Z Z k) aU.z<|mY Z .nil .nil (oC Z) aU.z<|dW h λM h=>mY Z .nil (kH 1 Z) (a_ Z Z (zBi (aD.fact 0 Z) k.1 k.2) Z Z M) aU.z<|mY Z .nil .nil (dX Z Z Z Z Z) aU.z<|mY Z .nil (kH 1 Z) (e_ Z (zBi (aD.fact 0 Z) k.1 k.2) Z Z Z Ez M) aU.z<|mY Z .nil .nil (cQ Z Z Z Z Z) aU.z<|mY Z (bA.cons 0 Z .nil) .nil (dN 0 Z Z Z Z Z) aU.z<|bP 15 Z Z<|aM Z (Dd Z Z) Z<|c_ Z<|aL ?_;exact bU (decide (((at' (at' a.2 ((at' (at' a.2 b) d).1)) Q).2)≠((at' (at' a.2 b) d).2))) () h SF (bA.ix [1] Z Z) (aG.refl _ _)
     intro m G h;refine tT h Z (λ_ h=>?_) λ_ h=>?_
     ·refine aR<|aB Z<|aL<|aQ<|bG<|aI<|aI<|bG<|bG<|aI<|aI<|bG<|aI ?_;cases h;exact oA Z
     refine dM<|jH<|aO<|aA Z<|cD Z<|aB Z<|aL ?_;exact tV (wI .i64 (d+(1:Int))) () h SF Z
    refine qC<|eZ<|eZ<|wQ<|jH ?_;exact eW () (()) h SF Z
   intro s E h;unfold uQ at h;refine aO<|aA Z<|cD Z<|aB Z<|aL ?_;exact tV (wI .i64 (b+(1:Int))) () h SF Z
  refine eS ?_;exact bU () (()) h SF .nil (aG.refl _ _)
 intro T b9 h;unfold uP at h;refine aR<|aB Z<|aL<|aQ ?_;cases h;exact fW Z
def z_  (a:Int):Option (Int):=
 some (a)
def vV (a:eL) (c:gC->Option (Int)) (b:Bool):Option (Int):=
 if b=true then(ck (0<=(wI .u64 a.2)) (c ((Fx .u32 a.1 (zE .u32 (1:Int) (wI .u64 a.2))),(wI .i64 (a.2+(1:Int))))))else(z_  (a.1))
def vW (c:Int) (b:eL) (a:gC->Option (Int)):Option (Int):=
 if b.2<c then(vV b a (decide (b.2<(32:Int))))else(vV b a (false))
def kC (U:Nat) (a:Int):Option (Int):=
 bK (vW a) U ((0:Int),(0:Int))
theorem Lu:aV Tryz.prog 73:=Tryz.call73
theorem BM (U:Nat) {d:Int} (r:Int) (h:kC U d=some r):
  aW Tryz.prog 73 #[vI (d)] [] (λx:Unit=>vU (r)) (λx l=>l) (λ_ l=>l):=by
 refine aW.of Tryz.func73 Z Tryz.ntmps73 Z λc=>?_;unfold kC at h;refine aR<|aB Z<|aL<|aR<|aB Z<|aL<|aK<|dK (λe=>z_  e=some r) (λe i=>[(3,vU (e))]) (λe i=>[]) ?_ ?_
 ·refine aR<|aB Z<|aL<|aS<|eB (vW d) (λa j=>[(0,vI (d)),(3,vU (a.1)),(4,vI (a.2))]) (λa j=>[]) ((0:Int),(0:Int)) () h SF (bA.refl _) ?_;intro k a j h;refine aK<|aK<|dK (λb=>vV a (bK (vW d) k) b=some r) (λb f=>[(0,vI (d)),(3,vU (a.1)),(4,vI (a.2)),(11,vB (b))]) (λb f=>[]) ?_ ?_
  ·refine aO<|aA Z<|aA Z<|cZ Z<|aA Z ?_;refine wN h Z (λ_ h=>?_) λ_ h=>?_
   ·refine bZ Z<|aM Z (BD Z Z) Z<|dA Z<|aL ?_;exact eW (decide (a.2<(32:Int))) () h SF Z
   refine aE Z<|aE Z<|c_ Z<|aL ?_;exact eW (false) () h SF Z
  intro b f h;refine tT h Z (λ_ h=>?_) λ_ h=>?_
  ·refine cE<|aK<|aS<|aO<|aA Z<|aA Z<|aC (Cw Z Z Z) Z<|dW h λg h=>aC (FL Z Z g) Z<|aC (Kr Z Z) Z<|aB Z<|eN<|jH<|aO<|aA Z<|cD Z<|aB Z<|aL ?_;exact tV ((Fx .u32 a.1 (zE .u32 (1:Int) (wI .u64 a.2))),(wI .i64 (a.2+(1:Int)))) () h SF Z
  refine eS ?_;exact eW (a.1) () h SF Z
 intro e i h;unfold z_ at h;refine aR<|aA Z<|aB Z<|aL<|aQ ?_;cases h;exact fW Z
def vX  (a:Bool):Option Bool:=
 some (a)
def nN (U:Nat) (b:Int) (a:Int):Option Bool:=
 if(0:Int)<=a then(if a<(32:Int)then(ck (0<=(wI .u64 a)) (vX  (decide ((eG .u32 (mZ .u32 b (wI .u64 a)) (1:Int))=(1:Int)))))else(vX  (false)))else(vX  (false))
theorem HL:aV Tryz.prog 70:=Tryz.call70
theorem uY (U:Nat) {b:Int} {d:Int} (r:Bool) (h:nN U b d=some r):
  aW Tryz.prog 70 #[vU (b),vI (d)] [] (λx:Unit=>vB (r)) (λx l=>l) (λ_ l=>l):=by
 refine aW.of Tryz.func70 Z Tryz.ntmps70 Z λc=>?_;refine aR<|aB Z<|aL<|aK<|dK (λa=>vX  a=some r) (λa e=>[(4,vB (a))]) (λa e=>[]) ?_ ?_
 ·refine aO<|aA Z<|aC (wC Z Z) Z<|aA Z ?_;refine wN h Z (λ_ h=>?_) λ_ h=>?_
  ·refine bZ Z<|aM Z (BD Z Z) Z<|dA Z<|aA Z ?_;refine wN h Z (λ_ h=>?_) λ_ h=>?_
   ·refine bZ Z<|bZ Z<|aM Z (Cw Z Z Z) Z<|dW h λf h=>aM Z (Iq Z Z f) Z<|aM Z (NM Z Z) Z<|aM Z (Cy Z Z) Z<|dA Z<|aB Z<|aL ?_;exact eW (decide ((eG .u32 (mZ .u32 b (wI .u64 d)) (1:Int))=(1:Int))) () h SF Z
   refine aE Z<|aE Z<|aE Z<|aE Z<|aE Z<|aE Z<|c_ Z<|aB Z<|aL ?_;exact eW (false) () h SF Z
  refine aE Z<|aE Z<|c_ Z<|aA Z<|aE Z<|aE Z<|aE Z<|aE Z<|aE Z<|aE Z<|c_ Z<|aB Z<|aL ?_;exact eW (false) () h SF Z
 intro a e h;unfold vX at h;refine aQ ?_;cases h;exact fW Z
def qQ  (a:Int):Option (Int):=
 some (a)
def qR (b:eL) (a:gC->Option (Int)) (c:Int):Option (Int):=
 a (c,(wI .i64 (b.2+(1:Int))))
def nH (b:eL) (a:gC->Option (Int)) (c:Int):Option (Int):=
 a (c,(wI .i64 (b.2+(1:Int))))
def kQ (U:Nat) (e:cW) (g:Int) (a:eL) (d:gC->Option (Int)) (b:eL) (c:gC->Option (Int)):Option (Int):=
 ck (0<=a.2∧a.2<(e.2.length:Int)) (if b.2<((at' e.2 a.2).length:Int)then(ck (0<=a.2∧a.2<(e.2.length:Int)) (ck (0<=b.2∧b.2<((at' e.2 a.2).length:Int)) (Option.bind (nN U g ((at' (at' e.2 a.2) b.2).1)) λf=>(if f=true then(ck (0<=(wI .u64 a.2)) (nH b c (Fx .u32 b.1 (zE .u32 (1:Int) (wI .u64 a.2)))))else(nH b c (b.1))))))else(qR a d (b.1)))
def i_ (U:Nat) (c:cW) (d:Int) (a:eL) (b:gC->Option (Int)):Option (Int):=
 if a.2<(c.2.length:Int)then(bK (kQ U c d a b) U (a.1,(0:Int)))else(qQ  (a.1))
def jW (U:Nat) (a:cW) (b:Int):Option (Int):=
 Option.bind (gW U ((a.1,a.2))) λc=>(if(!c)=true then(some (0:Int))else(bK (i_ U a b) U ((0:Int),(0:Int))))
theorem Yy:aV Tryz.prog 74:=Tryz.call74
theorem CY (U:Nat) {j:cW} {g:Int} (m:Value)  (n:Value)  (C:iX) (r:Int) (h:jW U j g=some r):
  aW Tryz.prog 74 #[Value.agg #[m,n],vU (g)] [Sl bX m j.1,S2 bD n C j.2] (λx:Unit=>vU (r)) (λx l=>l) (λ_ l=>l):=by
 refine aW.of Tryz.func74 Z Tryz.ntmps74 Z λc=>?_;refine aR<|aH (aN.box (cs:=[m,n]) Z Z) Z λk=>aB Z<|aL<|aK<|aR<|cM 0 Z<|dZ h λD E h=>aH (zBg Pb (By U m n C D E) Z (jP [0,1] Z)) Z λG=>aC (lV Z) Z<|aL ?_;refine tT h Z (λ_ h=>?_) λ_ h=>?_
 ·refine aR<|aB Z<|aL<|aQ<|aI ?_;cases h;exact oA Z
 refine cE<|aR<|aB Z<|aL<|aK<|dK (λp=>qQ  p=some r) (λp B=>[(5,vU (p))]) (λp B=>[]) ?_ ?_
 ·refine aR<|aB Z<|aL<|aS<|eB (i_ U j g) (λa q=>[(1,vU (g)),(2,vP k),(5,vU (a.1)),(6,vI (a.2))]) (λa q=>[cJ k [m,n] 29]) ((0:Int),(0:Int)) () h SF (bA.refl _) ?_;intro o a q h;refine aK<|aR<|aA Z<|bN Z<|dL 0 Z<|aC (gM Z (aD.fact 1 Z) Z) Z<|cZ Z<|aL ?_;refine d_ h Z (λh=>?_) λh=>?_
  ·refine cE<|aK<|dK (λd=>qR a (bK (i_ U j g) o) d=some r) (λd s=>[(1,vU (g)),(2,vP k),(5,vU (d)),(6,vI (a.2))]) (λd s=>[cJ k [m,n] 29]) ?_ ?_
   ·refine aS<|aR<|aB Z<|aL<|aS<|eB (kQ U j g a (bK (i_ U j g) o)) (λb t=>[(1,vU (g)),(2,vP k),(5,vU (b.1)),(6,vI (a.2)),(7,vI (b.2))]) (λb t=>[cJ k [m,n] 29]) (a.1,(0:Int)) () h SF (bA.refl _) ?_;intro y b t h;refine aK<|aR<|aA Z<|bN Z<|dL 0 Z<|aA Z<|dW h λi h=>aC (cY Z Z (aD.fact 1 Z) Z Z i) Z<|aC (cL Z (aD.fact 1 Z) Z Z i) Z<|aC (fX Z (zBi (aD.fact 1 Z) i.1 i.2) Z) Z<|cZ Z<|aL ?_;refine d_ h Z (λh=>?_) λh=>?_
    ·refine cE<|aK<|dK (λe=>nH b (bK (kQ U j g a (bK (i_ U j g) o)) y) e=some r) (λe u=>[(1,vU (g)),(2,vP k),(5,vU (e)),(6,vI (a.2)),(7,vI (b.2))]) (λe u=>[cJ k [m,n] 29]) ?_ ?_
     ·refine aS<|aR<|aA Z<|bN Z<|dL 0 Z<|aA Z<|dW h λf h=>aC (cY Z Z (aD.fact 1 Z) Z Z f) Z<|aC (cL Z (aD.fact 1 Z) Z Z f) Z<|aA Z<|dW h λv h=>aC (a_ Z Z (zBi (aD.fact 1 Z) f.1 f.2) Z Z v) Z<|aC (dX Z Z Z Z Z) Z<|aC (e_ Z (zBi (aD.fact 1 Z) f.1 f.2) Z Z Z jS v) Z<|dZ h λz A h=>aH (zBg HL (uY U  z A) Z .nil) Z λF=>aL ?_;refine tT h Z (λ_ h=>?_) λ_ h=>?_
      ·refine aO<|aA Z<|aA Z<|aC (Cw Z Z Z) Z<|dW h λw h=>aC (FL Z Z w) Z<|aC (Kr Z Z) Z<|aB Z<|eN<|jH ?_;exact eW (Fx .u32 b.1 (zE .u32 (1:Int) (wI .u64 a.2))) () h SF Z
      refine dM<|jH ?_;exact eW (b.1) () h SF Z
     intro e u h;unfold nH at h;refine aO<|aA Z<|cD Z<|aB Z<|aL ?_;exact tV (e,(wI .i64 (b.2+(1:Int)))) () h SF Z
    refine qC<|eZ<|eZ<|wQ<|jH ?_;exact eW (b.1) () h SF Z
   intro d s h;unfold qR at h;refine aO<|aA Z<|cD Z<|aB Z<|aL ?_;exact tV (d,(wI .i64 (a.2+(1:Int)))) () h SF Z
  refine eS ?_;exact bU (a.1) () h SF .nil (aG.refl _ _)
 intro p B h;unfold qQ at h;refine aR<|aA Z<|aB Z<|aL<|aQ ?_;cases h;exact fW Z
def yH  (a:Int):Option (Int):=
 some (a)
def sU (U:Nat) (e:cW) (a:eL) (b:gC->Option (Int)) (c:Bool):Option (Int):=
 if c=true then(Option.bind (jW U ((e.1,e.2)) a.1) λd=>(b ((Fx .u32 a.1 d),(wI .i64 (a.2+(1:Int))))))else(yH  (a.1))
def pQ (U:Nat) (c:cW) (d:Int) (a:eL) (b:gC->Option (Int)):Option (Int):=
 if a.2<d then(sU U c a b (decide (a.2<(c.2.length:Int))))else(sU U c a b (false))
def yG (U:Nat) (a:cW) (c:Int) (d:Int) (b:Bool):Option (Int):=
 if b=true then(some (0:Int))else(Option.bind (kC U (a.2.length:Int)) λe=>(bK (pQ U a d) U ((eG .u32 c e),(0:Int))))
def mK (U:Nat) (a:cW) (d:Int) (b:Int):Option (Int):=
 Option.bind (gW U ((a.1,a.2))) λc=>(if(!c)=true then(yG U a d b (true))else(yG U a d b (decide (b<(0:Int)))))
theorem aeu:aV Tryz.prog 39:=Tryz.call39
theorem MG (U:Nat) {p0:cW} {p1:Int} {p2:Int} (v0:Value)  (v1:Value)  (z2:iX) (r:Int) (h:mK U p0 p1 p2=some r):
  aW Tryz.prog 39 #[Value.agg #[v0,v1],vU (p1),vI (p2)] [Sl bX v0 p0.1,S2 bD v1 z2 p0.2] (λx:Unit=>vU (r)) (λx l=>l) (λ_ l=>l):=by
 refine aW.of Tryz.func39 Z Tryz.ntmps39 Z λc=>?_;refine aR<|aH (aN.box (cs:=[v0,v1]) Z Z) Z λb1=>aB Z<|aL<|aK<|aK<|dK (λa3=>yG U p0 p1 p2 a3=some r) (λa3 b4=>[(1,vU (p1)),(2,vI (p2)),(3,vP b1),(15,vB (a3))]) (λa3 b4=>[cJ b1 [v0,v1] 29]) ?_ ?_
 ·refine aO<|cM 0 Z<|dZ h λr26 w27 h=>aH (zBg Pb (By U v0 v1 z2 r26 w27) Z (jP [0,1] Z)) Z λx28=>aC (lV Z) Z<|aA Z ?_;refine rZ (by exact rfl) (by exact rfl) (λhp29=>?_) (λhp29=>?_)
  ·have h:=LS hp29 h;refine aE Z<|aE Z<|dA Z<|aL ?_;exact eW (true) () h SF Z
  have h:=HU hp29 h;refine bZ Z<|aM Z (BD Z Z) Z<|c_ Z<|aL ?_;exact eW (decide (p2<(0:Int))) () h SF Z
 intro a3 b4 h;refine tT h Z (λ_ h=>?_) λ_ h=>?_
 ·refine aR<|aB Z<|aL<|aQ<|aI ?_;cases h;exact oA Z
 refine cE<|aR<|aA Z<|bN Z<|dL 0 Z<|aC (gM Z (aD.fact 1 Z) Z) Z<|dZ h λr6 w7 h=>aH (zBg Lu (BM U  r6 w7) Z .nil) Z λx8=>wE Z<|aB Z<|aL<|aK<|dK (λa10=>yH  a10=some r) (λa10 b11=>[(7,vU (a10))]) (λa10 b11=>[]) ?_ ?_
 ·refine aR<|aB Z<|aL<|aS<|eB (pQ U p0 p2) (λa15 b16=>[(2,vI (p2)),(3,vP b1),(7,vU (a15.1)),(8,vI (a15.2))]) (λa15 b16=>[cJ b1 [v0,v1] 29]) ((eG .u32 p1 r6),(0:Int)) () h SF (bA.refl _) ?_;intro k17 a15 b16 h;refine aK<|aK<|dK (λa19=>sU U p0 a15 (bK (pQ U p0 p2) k17) a19=some r) (λa19 b20=>[(2,vI (p2)),(3,vP b1),(7,vU (a15.1)),(8,vI (a15.2)),(31,vB (a19))]) (λa19 b20=>[cJ b1 [v0,v1] 29]) ?_ ?_
  ·refine aO<|aA Z<|aA Z<|cZ Z<|aA Z ?_;refine wN h Z (λ_ h=>?_) λ_ h=>?_
   ·refine bZ Z<|aM Z (cQ Z Z Z Z Z) Z<|aM Z (dN 0 Z Z Z Z Z) Z<|aM Z (gM Z (aD.fact 1 Z) Z) Z<|aM Z (BD Z Z) Z<|dA Z<|aL ?_;exact eW (decide (a15.2<(p0.2.length:Int))) () h SF Z
   refine aE Z<|aE Z<|aE Z<|aE Z<|aE Z<|c_ Z<|aL ?_;exact eW (false) () h SF Z
  intro a19 b20 h;refine tT h Z (λ_ h=>?_) λ_ h=>?_
  ·refine cE<|aK<|aS<|aO<|aA Z<|cM 0 Z<|aA Z<|dZ h λr22 w23 h=>aH (zBg Yy (CY U v0 v1 z2 r22 w23) Z (jP [0,1] Z)) Z λx24=>aC (Kr Z Z) Z<|aB Z<|eN<|jH<|aO<|aA Z<|cD Z<|aB Z<|aL ?_;exact tV ((Fx .u32 a15.1 r22),(wI .i64 (a15.2+(1:Int)))) () h SF Z
  refine eS ?_;exact bU (a15.1) () h SF .nil (aG.refl _ _)
 intro a10 b11 h;unfold yH at h;refine aR<|aA Z<|aB Z<|aL<|aQ ?_;cases h;exact fW Z
def pX (U:Nat) (a:Es) (c:Int):Option uZ:=
 if(!a.2.2.2.2.1)=true then(Option.bind (mW U ((a.1,a.2.1,a.2.2.1,a.2.2.2.1,a.2.2.2.2.1,a.2.2.2.2.2)) c) λd=>(some ((d.1,d.2))))else(Option.bind (nG U ((a.1,a.2.1,a.2.2.1,a.2.2.2.1,a.2.2.2.2.1,a.2.2.2.2.2)) c) λe=>(Option.bind (lS U ((a.1,a.2.1,a.2.2.1,a.2.2.2.1,a.2.2.2.2.1,a.2.2.2.2.2)) ((e.1,e.2))) λb=>(some ((b.1,b.2)))))
theorem agG:aV Tryz.prog 5:=Tryz.call5
theorem IT (U:Nat) {b:Es} {v:Int} (e:Value)  (f:Value)  (g:Value) (r:Fv) (h:pX U b v=some r):
  aW Tryz.prog 5 #[Value.agg #[vI (b.1),e,f,g,vB (b.2.2.2.2.1),vB (b.2.2.2.2.2)],vI (v)] [Sl bX e b.2.1,Sl bX f b.2.2.1,Sl bX g b.2.2.2.1] (λx:Ss=>Value.agg #[x.1,x.2.1]) (λx l=>Ar cS x.1 r.1::Ar fE.raw x.2.1 x.2.2::k_ dO x.2.2 r.2::l) (λ_ l=>l):=by
 refine aW.of Tryz.func5 Z Tryz.ntmps5 Z λc=>?_;refine aR<|aH (aN.box (cs:=[vI (b.1),e,f,g,vB (b.2.2.2.2.1),vB (b.2.2.2.2.2)]) Z Z) Z λw=>aH (aN.alloc (cs:=[lL,lL]) Z Z) Z λy=>aL<|aK<|aR<|bN Z<|dL 1 Z<|aC (lV Z) Z<|aL ?_;refine tT h Z (λ_ h=>?_) λ_ h=>?_
 ·refine aR<|cM 1 Z<|aA Z<|dZ h λz A h=>aH (zBg aeo (En U e f g z A) Z (jP [0,1,2] Z)) Z λn=>bE (Know.one ((aT (aD.res 0 Z) dD))) λo=>bE (Know.one (aD.sl (bB (i:=1) (j:=2) Z Z cG))) λp=>bF 3 (vs:=[n.1,n.2.1]) Z Z (bR o (bR p Z)) Z Z Z<|aL<|aQ<|aI ?_;cases h;exact gE (n.1,n.2.1,n.2.2) Z Z (RV.cell 3 Z Z Z Z) (bA.ix [0,1,2] Z Z) aG.nil
 refine cE<|aK ?_;refine JR.start [0,0,0,6,15,31] 4 mixedOrders (by decide +kernel) ?_;refine zBj (by exact rfl) ?_;refine gK 1 Z<|gK 1 Z<|aY Z<|dZ h λs t h=>zBh Z Z Z (zBg Yq (Cb U e f g s t) Z (jP [0,1,2] Z)) Z (λa=>(kG [([4],[])] Z)) λa=>bP 4 Z Z<|dZ h λq u h=>aH (Ey (Min:=[Ar cS a.1 s.1,Ar fE.raw a.2.1 a.2.2,k_ dO a.2.2 s.2]) (Mr:=[cJ y [lL,lL] 29,cJ w [vI (b.1),e,f,g,vB (b.2.2.2.2.1),vB (b.2.2.2.2.2)] 24]) Yp (CV U e f g a.1 a.2.1 a.2.2 q u) Z (bA.refl _) (jP [0,1,2] Z) (λ_ _=>rfl)) Z λd=>bE (Know.one ((aT (aD.res 0 Z) dD))) λk=>bE (Know.one (aD.sl (bB (i:=1) (j:=2) Z Z cG))) λm=>bF 3 (vs:=[d.1,d.2.1]) Z Z (bR k (bR m Z)) Z Z Z<|aL<|aQ ?_;cases h;exact gE (d.1,d.2.1,d.2.2) Z Z (RV.cell 3 Z Z Z Z) (bA.ix [0,1,2] Z Z) aG.nil
def tP  (a:Unit):Option Bool:=
 some (true)
def Aa (c:aX) (d:aX) (a:Int) (b:(Int)->Option Bool):Option Bool:=
 if a<(c.length:Int)then(ck (0<=a∧a<(c.length:Int)) (ck (0<=a∧a<(d.length:Int)) (if(at' c a)≠(at' d a)then(some (false))else(b (wI .i64 (a+(1:Int)))))))else(tP  (()))
def vM (U:Nat) (a:aX) (b:aX):Option Bool:=
 if(a.length:Int)≠(b.length:Int)then(some (false))else(bK (Aa a b) U (0:Int))
theorem aeB:aV Tryz.prog 55:=Tryz.call55
theorem JO (U:Nat) {f:aX} {g:aX} (i:Value)  (j:Value) (r:Bool) (h:vM U f g=some r):
  aW Tryz.prog 55 #[i,j] [Sl bX i f,Sl bX j g] (λx:Unit=>vB (r)) (λx l=>l) (λ_ l=>l):=by
 refine aW.of Tryz.func55 Z Tryz.ntmps55 Z λc=>?_;refine aR<|aB Z<|aL<|aK<|aR<|aA Z<|iF (aD.fact 0 Z) Z<|aA Z<|iF (aD.fact 1 Z) Z<|jQ Z<|aL ?_;refine d_ h Z (λh=>?_) λh=>?_
 ·refine aR<|aB Z<|aL<|aQ<|aI ?_;cases h;exact fW Z
 refine cE<|aK<|dK (λd=>tP  d=some r) (λd k=>[]) (λd k=>[]) ?_ ?_
 ·refine aR<|aB Z<|aL<|aS<|eB (Aa f g) (λe m=>[(0,i),(1,j),(5,vI (e))]) (λe m=>[]) (0:Int) () h SF (bA.refl _) ?_;intro n e m h;refine aK<|aR<|aA Z<|aA Z<|iF (aD.fact 0 Z) Z<|cZ Z<|aL ?_;refine d_ h Z (λh=>?_) λh=>?_
  ·refine cE<|aK<|aS<|aK ?_;refine JR.start [0,0,3,7,0,0,48,112,255] 8 mixedOrders (by decide +kernel) ?_;refine zBj (by exact rfl) ?_;refine aY Z<|aY Z<|dW h λa h=>bM Z .nil (kH 0 Z) (a_ Z Z (aD.fact 0 Z) Z Z a) aU.z<|bM Z .nil (kH 0 Z) (bY Z (aD.fact 0 Z) Z Z Z eH a) aU.z<|aY Z<|aY Z<|dW h λb h=>bM Z .nil (kH 1 Z) (a_ Z Z (aD.fact 0 Z) Z Z b) aU.z<|bM Z .nil (kH 1 Z) (bY Z (aD.fact 0 Z) Z Z Z eH b) aU.z<|bP 8 Z Z<|jQ Z<|aL ?_;refine d_ h Z (λh=>?_) λh=>?_
   ·refine aR<|aB Z<|aL<|aQ<|bG<|aI<|aI<|bG<|aI ?_;cases h;exact fW Z
   refine dM<|jH<|aO<|aA Z<|cD Z<|aB Z<|aL ?_;exact tV (wI .i64 (e+(1:Int))) () h SF Z
  refine eS ?_;exact eW () (()) h SF Z
 intro d k h;unfold tP at h;refine aR<|aB Z<|aL<|aQ ?_;cases h;exact fW Z
def DD (U:Nat) (a:ByteArray):Option ((ByteArray×Int×Int×Int×Int×Int)):=
 some ((a,(2:Int),(0:Int),(0:Int),(0:Int),(0:Int)))
theorem aep:aV Tryz.prog 30:=Tryz.call30
theorem Nz (U:Nat) {a:ByteArray} (r:VS) (h:DD U a=some r):
  aW Tryz.prog 30 #[vS (a)] [] (λx:Unit=>Value.agg #[vS (r.1),vI (r.2.1),vI (r.2.2.1),vI (r.2.2.2.1),vI (r.2.2.2.2.1),vI (r.2.2.2.2.2)]) (λx l=>l) (λ_ l=>l):=by
 refine aW.of Tryz.func30 Z Tryz.ntmps30 Z λc=>?_;unfold DD at h;refine aR<|aH (aN.alloc (cs:=vD4) Z Z) Z λb=>aL<|aR<|aA Z ?_;refine aC (FK (r:=Value.agg #[vS (a),vI (2:Int),vI (0:Int),vI (0:Int),vI (0:Int),vI (0:Int)]) Z Z (by intro w;simp[Instr.build,Instr.fill,cT,b_,bW,cU,cV,cA,dJ])) Z ?_;refine bF 0 (vs:=[vS (a),vI (2:Int),vI (0:Int),vI (0:Int),vI (0:Int),vI (0:Int)]) Z Z Z Z Z Z<|aL<|aQ ?_;cases h;exact gE () Z Z (RV.cell 0 Z Z Z Z) .nil aG.nil
def EP (U:Nat)  : Option ((List (ByteArray×Int×Int×Int×Int×Int))):=
 Option.bind (DD U (ByteArray.mk #[109])) λa=>(some ([(a.1,a.2.1,a.2.2.1,a.2.2.2.1,a.2.2.2.2.1,a.2.2.2.2.2)]))
theorem agI:aV Tryz.prog 7:=Tryz.call7
theorem Qh (U:Nat)  (r:(List (ByteArray×Int×Int×Int×Int×Int))) (h:EP U  = some r):
  aW Tryz.prog 7 #[] [] (λx:Value=>x) (λx l=>Ar kP x r::l) (λ_ l=>l):=by
 refine aW.of Tryz.func7 Z Tryz.ntmps7 Z λc=>?_;refine aR<|aB Z<|aL<|aR<|dZ h λa d h=>aH (zBg aep (Nz U  a d) Z .nil) Z λf=>aH (bT (e:=kP) ([((a.1,a.2.1,a.2.2.1,a.2.2.2.1,a.2.2.2.2.1,a.2.2.2.2.2))]) [(0,Value.agg #[vS (a.1),vI (a.2.1),vI (a.2.2.1),vI (a.2.2.2.1),vI (a.2.2.2.2.1),vI (a.2.2.2.2.2)])] Z Z Z Z (Rm (vS (a.1)) (vI (a.2.1)) (vI (a.2.2.1)) (vI (a.2.2.2.1)) (vI (a.2.2.2.2.1)) (vI (a.2.2.2.2.2))) Z Z Z) Z λb=>aB Z<|aL<|aQ ?_;cases h;exact gE (b) Z Z (RV.tmp Z) (bA.refl _) aG.nil
def CL (U:Nat) (a:ByteArray) (b:Int) (c:Int) (d:Int):Option ((ByteArray×Int×Int×Int×Int×Int)):=
 some ((a,(1:Int),(0:Int),b,c,d))
theorem aeq:aV Tryz.prog 31:=Tryz.call31
theorem MF (U:Nat) {a:ByteArray} {b:Int} {d:Int} {e:Int} (r:VS) (h:CL U a b d e=some r):
  aW Tryz.prog 31 #[vS (a),vI (b),vI (d),vI (e)] [] (λx:Unit=>Value.agg #[vS (r.1),vI (r.2.1),vI (r.2.2.1),vI (r.2.2.2.1),vI (r.2.2.2.2.1),vI (r.2.2.2.2.2)]) (λx l=>l) (λ_ l=>l):=by
 refine aW.of Tryz.func31 Z Tryz.ntmps31 Z λc=>?_;unfold CL at h;refine aR<|aH (aN.alloc (cs:=vD4) Z Z) Z λf=>aL<|aR<|aA Z<|aA Z<|aA Z<|aA Z ?_;refine aC (Y.bld5 (r:=Value.agg #[vS (a),vI (1:Int),vI (0:Int),vI (b),vI (d),vI (e)]) Z Z Z Z Z (by intro w;simp[Instr.build,Instr.fill,cT,b_,bW,cU,cV,cA,dJ])) Z ?_;refine bF 0 (vs:=[vS (a),vI (1:Int),vI (0:Int),vI (b),vI (d),vI (e)]) Z Z Z Z Z Z<|aL<|aQ ?_;cases h;exact gE () Z Z (RV.cell 0 Z Z Z Z) .nil aG.nil
def EQ (U:Nat)  : Option ((List (ByteArray×Int×Int×Int×Int×Int))):=
 Option.bind (CL U (ByteArray.mk #[99]) (0:Int) (1:Int) (0:Int)) λa=>(some ([(a.1,a.2.1,a.2.2.1,a.2.2.2.1,a.2.2.2.2.1,a.2.2.2.2.2)]))
theorem agK:aV Tryz.prog 9:=Tryz.call9
theorem Qi (U:Nat)  (r:(List (ByteArray×Int×Int×Int×Int×Int))) (h:EQ U  = some r):
  aW Tryz.prog 9 #[] [] (λx:Value=>x) (λx l=>Ar kP x r::l) (λ_ l=>l):=by
 refine aW.of Tryz.func9 Z Tryz.ntmps9 Z λc=>?_;refine aR<|aB Z<|aL<|aR<|dZ h λa d h=>aH (zBg aeq (MF U  a d) Z .nil) Z λf=>aH (bT (e:=kP) ([((a.1,a.2.1,a.2.2.1,a.2.2.2.1,a.2.2.2.2.1,a.2.2.2.2.2))]) [(0,Value.agg #[vS (a.1),vI (a.2.1),vI (a.2.2.1),vI (a.2.2.2.1),vI (a.2.2.2.2.1),vI (a.2.2.2.2.2)])] Z Z Z Z (Rm (vS (a.1)) (vI (a.2.1)) (vI (a.2.2.1)) (vI (a.2.2.2.1)) (vI (a.2.2.2.2.1)) (vI (a.2.2.2.2.2))) Z Z Z) Z λb=>aB Z<|aL<|aQ ?_;cases h;exact gE (b) Z Z (RV.tmp Z) (bA.refl _) aG.nil
def BH (U:Nat) (a:cW):Option (Int):=
 ck (0<=(a.1.length:Int)) (some (wI .u32 ((zE .u32 (1:Int) (a.1.length:Int)) - (1:Int))))
theorem aeP:aV Tryz.prog 90:=Tryz.call90
theorem Si (U:Nat) {a:cW} (b:Value)  (d:Value)  (f:iX) (r:Int) (h:BH U a=some r):
  aW Tryz.prog 90 #[Value.agg #[b,d]] [Sl bX b a.1,S2 bD d f a.2] (λx:Unit=>vU (r)) (λx l=>l) (λ_ l=>l):=by
 refine aW.of Tryz.func90 Z Tryz.ntmps90 Z λc=>?_;refine aR<|aH (aN.box (cs:=[b,d]) Z Z) Z λg=>aB Z<|aL<|aR<|bN Z<|dL 0 Z<|iF (aD.fact 0 Z) Z<|dW h λe h=>aC (FL Z Z e) Z<|aC (lO Z Z) Z<|aB Z<|aL<|aQ ?_;cases h;exact oA Z
end Go.Proofs.YtahgemjmgopleaaGreatDoor