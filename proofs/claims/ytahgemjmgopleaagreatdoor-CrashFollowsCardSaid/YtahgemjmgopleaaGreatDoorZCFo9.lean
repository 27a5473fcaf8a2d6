/- Models and proofs. Conditions: none. -/
import Derived.Test.YtahgemjmgopleaaGreatDoorZCFo8
import Derived.Test.YtahgemjmgopleaaGreatDoorZCFo6
import Derived.Test.YtahgemjmgopleaaGreatDoorZCFo2
set_option linter.unusedVariables false
set_option linter.unusedSimpArgs false
set_option maxHeartbeats 4000000
set_option maxRecDepth 20000
namespace Go.Proofs.YtahgemjmgopleaaGreatDoor
open Go.Sx
def AE  (a:Int):Option (Int):=
 some (a)
def AF  (a:Int):Option (Int):=
 some (a)
def w_ (U:Nat) (c:Int) (b:Int) (a:Int):Option (Int):=
 if c=(30:Int)then(some (wI .i64 (b*a)))else(if c=(31:Int)then(Option.bind (Bm U b a) λn=>(some (n)))else(if c=(32:Int)then(if a=(0:Int)then(some (0:Int))else(Option.bind (Bm U b a) λo=>(some (wI .i64 (b - (wI .i64 (a*o)))))))else(if c=(33:Int)then(some (wI .i64 (b+a)))else(if c=(34:Int)then(some (wI .i64 (b - a)))else(if c=(35:Int)then(Option.bind (fH U (decide (b=a))) λd=>(some (d)))else(if c=(36:Int)then(Option.bind (fH U (decide (b≠a))) λe=>(some (e)))else(if c=(37:Int)then(Option.bind (fH U (decide (b<a))) λf=>(some (f)))else(if c=(38:Int)then(Option.bind (fH U (decide (b<=a))) λg=>(some (g)))else(if c=(39:Int)then(Option.bind (fH U (decide (a<b))) λh=>(some (h)))else(if c=(40:Int)then(Option.bind (fH U (decide (a<=b))) λi=>(some (i)))else(if c=(41:Int)then(if b≠(0:Int)then(Option.bind (fH U (decide (a≠(0:Int)))) λj=>(AE  (j)))else(Option.bind (fH U false) λk=>(AE  (k))))else(if b≠(0:Int)then(Option.bind (fH U true) λl=>(AF  (l)))else(Option.bind (fH U (decide (a≠(0:Int)))) λm=>(AF  (m)))))))))))))))
theorem aca:aU Tryz.prog 203:=Tryz.call203
theorem Og (U:Nat) {D:Int} {E:Int} {F:Int} (r:Int) (h:w_ U D E F=some r):
  aW Tryz.prog 203 #[vI (D),vI (E),vI (F)] [] (λx:Unit=>vI (r)) (λx l=>l) (λ_ l=>l):=by
 refine aW.of Tryz.func203 Z Tryz.ntmps203 Z λc=>?_;refine aT<|aB Z<|aL<|aK<|aT<|aA Z<|aL<|aS<|aT<|bU Z<|aB Z<|aL ?_;refine dY h Z (λh=>?_) λh=>?_
 ·refine aT<|aA Z<|aA Z<|aC (zT Z Z) Z<|aB Z<|aL<|aR<|bE<|aI ?_;cases h;exact gF Z
 refine aT<|bU Z<|aB Z<|aL ?_;refine dY h Z (λh=>?_) λh=>?_
 ·refine aT<|aA Z<|aA Z<|dN h λG I h=>aG (zBi Vu (EL U  G I) Z .nil) Z λW=>aB Z<|aL<|aR<|bE<|aI ?_;cases h;exact gF Z
 refine aT<|bU Z<|aB Z<|aL ?_;refine dY h Z (λh=>?_) λh=>?_
 ·refine aK<|aT<|aA Z<|bU Z<|aL ?_;refine dY h Z (λh=>?_) λh=>?_
  ·refine aT<|aB Z<|aL<|aR<|aI<|bE<|aI ?_;cases h;exact gF Z
  refine cD<|aT<|aA Z<|aA Z<|aA Z<|aA Z<|dN h λH J h=>aG (zBi Vu (EL U  H J) Z .nil) Z λK=>aC (zT Z Z) Z<|aC (mM Z Z) Z<|aB Z<|aL<|aR<|bE<|aI ?_;cases h;exact gF Z
 refine aT<|bU Z<|aB Z<|aL ?_;refine dY h Z (λh=>?_) λh=>?_
 ·refine aT<|aA Z<|aA Z<|cB Z<|aB Z<|aL<|aR<|bE<|aI ?_;cases h;exact gF Z
 refine aT<|bU Z<|aB Z<|aL ?_;refine dY h Z (λh=>?_) λh=>?_
 ·refine aT<|aA Z<|aA Z<|aC (mM Z Z) Z<|aB Z<|aL<|aR<|bE<|aI ?_;cases h;exact gF Z
 refine aT<|bU Z<|aB Z<|aL ?_;refine dY h Z (λh=>?_) λh=>?_
 ·refine aT<|aA Z<|aA Z<|bU Z<|dN h λk s h=>aG (zBi r_ (gC U  k s) Z .nil) Z λL=>aB Z<|aL<|aR<|bE<|aI ?_;cases h;exact gF Z
 refine aT<|bU Z<|aB Z<|aL ?_;refine dY h Z (λh=>?_) λh=>?_
 ·refine aT<|aA Z<|aA Z<|kH Z<|dN h λm t h=>aG (zBi r_ (gC U  m t) Z .nil) Z λM=>aB Z<|aL<|aR<|bE<|aI ?_;cases h;exact gF Z
 refine aT<|bU Z<|aB Z<|aL ?_;refine dY h Z (λh=>?_) λh=>?_
 ·refine aT<|aA Z<|aA Z<|cN Z<|dN h λn u h=>aG (zBi r_ (gC U  n u) Z .nil) Z λN=>aB Z<|aL<|aR<|bE<|aI ?_;cases h;exact gF Z
 refine aT<|bU Z<|aB Z<|aL ?_;refine dY h Z (λh=>?_) λh=>?_
 ·refine aT<|aA Z<|aA Z<|aC (uE Z Z) Z<|dN h λo v h=>aG (zBi r_ (gC U  o v) Z .nil) Z λO=>aB Z<|aL<|aR<|bE<|aI ?_;cases h;exact gF Z
 refine aT<|bU Z<|aB Z<|aL ?_;refine dY h Z (λh=>?_) λh=>?_
 ·refine aT<|aA Z<|aA Z<|aC (tM Z Z) Z<|dN h λp w h=>aG (zBi r_ (gC U  p w) Z .nil) Z λP=>aB Z<|aL<|aR<|bE<|aI ?_;cases h;exact gF Z
 refine aT<|bU Z<|aB Z<|aL ?_;refine dY h Z (λh=>?_) λh=>?_
 ·refine aT<|aA Z<|aA Z<|aC (zJ Z Z) Z<|dN h λq y h=>aG (zBi r_ (gC U  q y) Z .nil) Z λQ=>aB Z<|aL<|aR<|bE<|aI ?_;cases h;exact gF Z
 refine aT<|bU Z<|aB Z<|aL ?_;refine dY h Z (λh=>?_) λh=>?_
 ·refine aK<|dQ (λa=>AE  a=some r) (λa d=>[(6,vI (a))]) (λa d=>[]) ?_ ?_
  ·refine aO<|aA Z<|kH Z<|aA Z ?_;refine AP h Z (λ_ h=>?_) λ_ h=>?_
   ·refine cJ Z<|aQ Z (CW Z Z) Z<|dC Z<|dN h λf z h=>aG (zBi r_ (gC U  f z) Z .nil) Z λR=>aB Z<|aL ?_;exact fE (f) () h SF Z
   refine aH Z<|aH Z<|dR Z<|dN h λg A h=>aG (zBi r_ (gC U  g A) Z .nil) Z λS=>aB Z<|aL ?_;exact fE (g) () h SF Z
  intro a d h;unfold AE at h;refine aR<|bE<|aI ?_;cases h;exact gF Z
 refine cU<|jE<|aK<|dQ (λb=>AF  b=some r) (λb e=>[(6,vI (b))]) (λb e=>[]) ?_ ?_
 ·refine aO<|aA Z<|kH Z<|aA Z ?_;refine AP h Z (λ_ h=>?_) λ_ h=>?_
  ·refine aH Z<|aH Z<|dC Z<|dN h λi B h=>aG (zBi r_ (gC U  i B) Z .nil) Z λT=>aB Z<|aL ?_;exact fE (i) () h SF Z
  refine cJ Z<|aQ Z (CW Z Z) Z<|dR Z<|dN h λj C h=>aG (zBi r_ (gC U  j C) Z .nil) Z λV=>aB Z<|aL ?_;exact fE (j) () h SF Z
 intro b e h;unfold AF at h;refine aR ?_;cases h;exact gF Z
def pH (U:Nat) (b:Int) (c:Int) (d:Int) (a:Bool):Option fO:=
 if a=true then(some ((0:Int),(2:Int)))else(Option.bind (w_ U b c d) λe=>(Option.bind (nL U e) λf=>(some (f,(0:Int)))))
def Dg (U:Nat) (a:Int) (b:Int) (c:Int):Option fO:=
 if a<(30:Int)then(pH U a b c (true))else(if(42:Int)<a then(pH U a b c (true))else(Option.bind (oB U b) λd=>(if(!d)=true then(pH U a b c (true))else(Option.bind (oB U c) λe=>(pH U a b c ((!e)))))))
theorem abR:aU Tryz.prog 167:=Tryz.call167
theorem NA (U:Nat) {e:Int} {f:Int} {g:Int} (r:eV) (h:Dg U e f g=some r):
  aW Tryz.prog 167 #[vI (e),vI (f),vI (g)] [] (λx:Unit=>Value.tuple #[vI (r.1),vI (r.2)]) (λx l=>l) (λ_ l=>l):=by
 refine aW.of Tryz.func167 Z Tryz.ntmps167 Z λc=>?_;refine aT<|aB Z<|aB Z<|aL<|aK<|aK<|dQ (λb=>pH U e f g b=some r) (λb m=>[(0,vI (e)),(1,vI (f)),(2,vI (g)),(23,vB (b))]) (λb m=>[]) ?_ ?_
 ·refine aO<|aA Z<|cN Z<|aA Z ?_;refine AP h Z (λ_ h=>?_) λ_ h=>?_
  ·refine aH Z<|aH Z<|dC Z<|aA Z<|aH Z<|aH Z<|aH Z<|dC Z<|aA Z<|aH Z<|aH Z<|aH Z<|dC Z<|aL ?_;exact fE (true) () h SF Z
  refine cJ Z<|aQ Z (tM Z Z) Z<|dR Z<|aA Z ?_;refine AP h Z (λ_ h=>?_) λ_ h=>?_
  ·refine aH Z<|aH Z<|aH Z<|dC Z<|aA Z<|aH Z<|aH Z<|aH Z<|dC Z<|aL ?_;exact fE (true) () h SF Z
  refine cJ Z<|dN h λi j h=>iP Z (zBi LK (AM U  i j) Z .nil) Z λt=>aQ Z (jC Z) Z<|dR Z<|aA Z ?_;refine rY (by exact rfl) (by exact rfl) (λa=>?_) (λa=>?_)
  ·have h:=Jl a h;refine aH Z<|aH Z<|aH Z<|dC Z<|aL ?_;exact fE (true) () h SF Z
  have h:=FZ a h;refine cJ Z<|dN h λd k h=>iP Z (zBi LK (AM U  d k) Z .nil) Z λu=>aQ Z (jC Z) Z<|dR Z<|aL ?_;exact fE ((!d)) () h SF Z
 intro b m h;refine tP h Z (λ_ h=>?_) λ_ h=>?_
 ·refine aT<|aB Z<|aB Z<|aL<|aR<|aI ?_;cases h;exact eW () Z Z (RV.tmp Z) (RV.tmp Z) (a_.refl _) aE.nil
 refine cD<|aT<|aA Z<|aA Z<|aA Z<|dN h λn p h=>aG (zBi aca (Og U  n p) Z .nil) Z λv=>dN h λo q h=>aG (zBi Vr (EK U  o q) Z .nil) Z λs=>aB Z<|aB Z<|aL<|aR ?_;cases h;exact eW () Z Z (RV.tmp Z) (RV.tmp Z) (a_.refl _) aE.nil
def Fu  (a:Unit):Option (Int):=
 some (-1:Int)
def Ju (U:Nat) (d:e_) (a:eV) (c:fO->Option (Int)):Option (Int):=
 if a.2<(d.length:Int)then(ck (0<=a.2∧a.2<(d.length:Int)) (Option.bind (lR U ((at' d a.2).1)) λb=>(if b<(0:Int)then(some (-1:Int))else(if(wI .i64 (a.1+(wI .i64 (b - (1:Int)))))=(0:Int)then(some (wI .i64 (a.2+(1:Int))))else(c ((wI .i64 (a.1+(wI .i64 (b - (1:Int))))),(wI .i64 (a.2+(1:Int)))))))))else(Fu  (()))
def Ft (U:Nat) (b:e_) (c:Int) (a:Bool):Option (Int):=
 if a=true then(some (-1:Int))else(bL (Ju U b) U ((1:Int),c))
def GB (U:Nat) (b:e_) (a:Int):Option (Int):=
 if a<(0:Int)then(Ft U b a (true))else(Ft U b a (decide ((b.length:Int)<=a)))
theorem Vs:aU Tryz.prog 204:=Tryz.call204
theorem Ld (U:Nat) {g:e_} {b:Int} (k:Value) (r:Int) (h:GB U g b=some r):
  aW Tryz.prog 204 #[k,vI (b)] [Sl bD k g] (λx:Unit=>vI (r)) (λx l=>l) (λ_ l=>l):=by
 refine aW.of Tryz.func204 Z Tryz.ntmps204 Z λc=>?_;refine aT<|aB Z<|aL<|aK<|aK<|dQ (λd=>Ft U g b d=some r) (λd n=>[(0,k),(1,vI (b)),(15,vB (d))]) (λd n=>[]) ?_ ?_
 ·refine aO<|aA Z<|cN Z<|aA Z ?_;refine AP h Z (λ_ h=>?_) λ_ h=>?_
  ·refine aH Z<|aH Z<|aH Z<|aH Z<|dC Z<|aL ?_;exact fE (true) () h SF Z
  refine cJ Z<|cJ Z<|aQ Z (fV Z (aD.fact 0 Z) Z) Z<|aQ Z (zJ Z Z) Z<|dR Z<|aL ?_;exact fE (decide ((g.length:Int)<=b)) () h SF Z
 intro d n h;refine tP h Z (λ_ h=>?_) λ_ h=>?_
 ·refine aT<|aB Z<|aL<|aR<|aI ?_;cases h;exact gF Z
 refine cD<|aT<|aB Z<|aL<|aK<|dQ (λj=>Fu  j=some r) (λj o=>[]) (λj o=>[]) ?_ ?_
 ·refine aT<|aA Z<|aB Z<|aL<|aS<|dZ (Ju U g) (λa e=>[(0,k),(5,vI (a.1)),(6,vI (a.2))]) (λa e=>[]) ((1:Int),b) () h SF (a_.refl _) ?_;intro p a e h;refine aK<|aT<|aA Z<|aA Z<|gW (aD.fact 0 Z) Z<|cN Z<|aL ?_;refine dY h Z (λh=>?_) λh=>?_
  ·refine cD<|aK<|aS<|aT<|aA Z<|aA Z<|dB h λf h=>aC (aZ Z Z (aD.fact 0 Z) Z Z f) Z<|aC (dX Z Z Z Z Z) Z<|aC (fD Z (aD.fact 0 Z) Z Z Z jX f) Z<|dN h λi m h=>aG (zBi PT (El U  i m) Z .nil) Z λq=>aB Z<|aL<|aK<|aT<|aA Z<|cN Z<|aL ?_;refine dY h Z (λh=>?_) λh=>?_
   ·refine aT<|aB Z<|aL<|aR<|aI<|bE<|aI<|aI<|bE<|aI ?_;cases h;exact gF Z
   refine cD<|aT<|aA Z<|aA Z<|aC (mM Z Z) Z<|cB Z<|aB Z<|aL<|aT<|aA Z<|bU Z<|aL ?_;refine dY h Z (λh=>?_) λh=>?_
   ·refine aT<|aA Z<|cB Z<|aB Z<|aL<|aR<|bE<|aI<|aI<|bE<|aI ?_;cases h;exact gF Z
   refine cU<|jE<|aO<|aA Z<|cB Z<|aB Z<|aL ?_;exact uG ((wI .i64 (a.1+(wI .i64 (i - (1:Int))))),(wI .i64 (a.2+(1:Int)))) () h SF Z
  refine eR ?_;exact fE () (()) h SF Z
 intro j o h;unfold Fu at h;refine aT<|aB Z<|aL<|aR ?_;cases h;exact gF Z
def Bo  (a:Int):Option (Int):=
 some (a)
def EH (U:Nat) (d:e_) (e:Int) (a:eV) (b:fO->Option (Int)):Option (Int):=
 if a.2<e then(Option.bind (GB U d a.1) λc=>(b (c,(wI .i64 (a.2+(1:Int))))))else(Bo  (a.1))
def v_ (U:Nat) (b:e_) (c:Int) (d:Int) (a:Bool):Option (Int):=
 if a=true then(some (-1:Int))else(bL (EH U b d) U ((wI .i64 (c+(1:Int))),(0:Int)))
def sO (U:Nat) (b:e_) (a:Int) (c:Int):Option (Int):=
 Option.bind (GB U b a) λd=>(if d<(0:Int)then(v_ U b a c (true))else(if c<(0:Int)then(v_ U b a c (true))else(ck (0<=a∧a<(b.length:Int)) (Option.bind (lR U ((at' b a).1)) λe=>(v_ U b a c (decide (e<=c)))))))
theorem PU:aU Tryz.prog 168:=Tryz.call168
theorem Cp (U:Nat) {n:e_} {j:Int} {b:Int} (d:Value) (r:Int) (h:sO U n j b=some r):
  aW Tryz.prog 168 #[d,vI (j),vI (b)] [Sl bD d n] (λx:Unit=>vI (r)) (λx l=>l) (λ_ l=>l):=by
 refine aW.of Tryz.func168 Z Tryz.ntmps168 Z λc=>?_;refine aT<|aB Z<|aL<|aK<|aK<|dQ (λe=>v_ U n j b e=some r) (λe t=>[(0,d),(1,vI (j)),(2,vI (b)),(26,vB (e))]) (λe t=>[]) ?_ ?_
 ·refine aO<|aA Z<|aA Z<|dN h λo q h=>aG (zBi Vs (Ld U d o q) Z (jF [0] Z)) Z λy=>cN Z<|aA Z ?_;refine AP h Z (λ_ h=>?_) λ_ h=>?_
  ·refine aH Z<|aH Z<|dC Z<|aA Z<|aH Z<|aH Z<|aH Z<|aH Z<|aH Z<|aH Z<|aH Z<|aH Z<|dC Z<|aL ?_;exact fE (true) () h SF Z
  refine cJ Z<|aQ Z (FK Z Z) Z<|dR Z<|aA Z ?_;refine AP h Z (λ_ h=>?_) λ_ h=>?_
  ·refine aH Z<|aH Z<|aH Z<|aH Z<|aH Z<|aH Z<|aH Z<|aH Z<|dC Z<|aL ?_;exact fE (true) () h SF Z
  refine cJ Z<|cJ Z<|cJ Z<|dB h λi h=>aQ Z (aZ Z Z (aD.fact 0 Z) Z Z i) Z<|aQ Z (dX Z Z Z Z Z) Z<|aQ Z (fD Z (aD.fact 0 Z) Z Z Z jX i) Z<|dN h λm s h=>iP Z (zBi PT (El U  m s) Z .nil) Z λz=>aQ Z (zJ Z Z) Z<|dR Z<|aL ?_;exact fE (decide (m<=b)) () h SF Z
 intro e t h;refine tP h Z (λ_ h=>?_) λ_ h=>?_
 ·refine aT<|aB Z<|aL<|aR<|aI ?_;cases h;exact gF Z
 refine cD<|aT<|aA Z<|cB Z<|aB Z<|aL<|aK<|dQ (λf=>Bo  f=some r) (λf u=>[(7,vI (f))]) (λf u=>[]) ?_ ?_
 ·refine aT<|aB Z<|aL<|aS<|dZ (EH U n b) (λa g=>[(0,d),(2,vI (b)),(7,vI (a.1)),(8,vI (a.2))]) (λa g=>[]) ((wI .i64 (j+(1:Int))),(0:Int)) () h SF (a_.refl _) ?_;intro v a g h;refine aK<|aT<|aA Z<|aA Z<|cN Z<|aL ?_;refine dY h Z (λh=>?_) λh=>?_
  ·refine cD<|aK<|aS<|aO<|aA Z<|aA Z<|dN h λk p h=>aG (zBi Vs (Ld U d k p) Z (jF [0] Z)) Z λw=>aB Z<|eM<|jE<|aO<|aA Z<|cB Z<|aB Z<|aL ?_;exact uG (k,(wI .i64 (a.2+(1:Int)))) () h SF Z
  refine eR ?_;exact fE (a.1) () h SF Z
 intro f u h;unfold Bo at h;refine aT<|aA Z<|aB Z<|aL<|aR ?_;cases h;exact gF Z
def GG (U:Nat) (c:e_) (d:Int) (a:aY):Option (Int):=
 Option.bind (sD U ((at' c d).1) a) λb=>(some (b))
def Ca (U:Nat) (d:cC) (h:bO) (e:Int) (f:e_) (g:Int) (i:GX->bO->Int->Int->e_->Int->Option (Int)) (a:aY×Int) (b:(aY×Int)->Option (Int)):Option (Int):=
 ck (0<=e∧e<(d.2.length:Int)) (if a.2<((at' d.2 e).length:Int)then(Option.bind (i ((d.1,d.2)) h e a.2 f (wI .i64 (g+(1:Int)))) λc=>(ck ((a.1.length:Int)+(List.length ([c]):Int)<=1099511627) (b ((a.1++[c]),(wI .i64 (a.2+(1:Int)))))))else(GG U f g (a.1)))
def qF (g:GX->bO->Int->Int->e_->Int->Option (Int)) (U:Nat) (c:cC) (d:bO) (e:Int) (f:Int) (a:e_) (b:Int):Option (Int):=
 ck (0<=b∧b<(a.length:Int)) (Option.bind (lR U ((at' a b).1)) λi=>(if i=(0:Int)then(ck (0<=b∧b<(a.length:Int)) (Option.bind (CL U ((c.1,c.2)) d e f ((((at' a b).1),((at' a b).2)))) λu=>(some (u))))else(if i=(1:Int)then(Option.bind (Ak U ((at' a b).1)) λh=>(if h=true then(bL (Ca U c d e a b g) U (([]:aY),(0:Int)))else(Option.bind (g ((c.1,c.2)) d e f a (wI .i64 (b+(1:Int)))) λj=>(Option.bind (HW U ((at' a b).1) j) λk=>(some (k.1))))))else(if i=(2:Int)then(Option.bind (g ((c.1,c.2)) d e f a (wI .i64 (b+(1:Int)))) λl=>(Option.bind (sO U a b (1:Int)) λm=>(Option.bind (g ((c.1,c.2)) d e f a m) λn=>(Option.bind (Dg U ((at' a b).1) l n) λo=>(some (o.1))))))else(Option.bind (g ((c.1,c.2)) d e f a (wI .i64 (b+(1:Int)))) λp=>(if p≠(0:Int)then(Option.bind (sO U a b (1:Int)) λq=>(Option.bind (g ((c.1,c.2)) d e f a q) λr=>(some (r))))else(Option.bind (sO U a b (2:Int)) λs=>(Option.bind (g ((c.1,c.2)) d e f a s) λt=>(some (t))))))))))
def eZ:Nat->GX->bO->Int->Int->e_->Int->Option (Int)
 |0,_,_,_,_,_,_=>none
 |U+1,p0,p1,p2,p3,p4,p5=>qF (eZ U) U p0 p1 p2 p3 p4 p5
theorem CF:aU Tryz.prog 126:=Tryz.call126
theorem QR (P:GX->bO->Int->Int->e_->Int->Option (Int)) (U:Nat) (d:∀{u:cC} {w:bO} {v:Int} {y:Int} {o:e_} {j:Int} (f:Value)  (g:Value)  (q:jA)  (i:Value)  (s:lO)  (a:Value) (r:Int),P u w v y o j=some r->aW Tryz.prog 126 #[Value.agg #[f,g],i,vI (v),vI (y),a,vI (j)] [Sl bR f u.1,S2 bD g q u.2,S2 bR i s w,Sl bD a o] (λx:Unit=>vI (r)) (λx l=>l) (λ_ l=>l)) {u:cC} {w:bO} {v:Int} {y:Int} {o:e_} {j:Int} (f:Value)  (g:Value)  (q:jA)  (i:Value)  (s:lO)  (a:Value) (r:Int) (h:qF P U u w v y o j=some r):
  aW Tryz.prog 126 #[Value.agg #[f,g],i,vI (v),vI (y),a,vI (j)] [Sl bR f u.1,S2 bD g q u.2,S2 bR i s w,Sl bD a o] (λx:Unit=>vI (r)) (λx l=>l) (λ_ l=>l):=by
 refine aW.of Tryz.func126 Z Tryz.ntmps126 Z λc=>?_;refine aT<|aG (aM.box (cs:=[f,g]) Z Z) Z λb1=>aB Z<|aL<|aT<|aA Z<|aA Z<|dB h λj2 h=>aC (aZ Z Z (aD.fact 3 Z) Z Z j2) Z<|aC (dX Z Z Z Z Z) Z<|aC (fD Z (aD.fact 3 Z) Z Z Z jX j2) Z<|aB Z<|aL<|aK<|aT<|aA Z<|dN h λr3 w4 h=>aG (zBi PT (El U  r3 w4) Z .nil) Z λx5=>aL<|aS<|aT<|bU Z<|aB Z<|aL ?_;refine dY h Z (λh=>?_) λh=>?_
 ·refine aK ?_;refine JR.start [0,0,0,0,0,0,48,112,255,511] 8 mixedOrders (by decide +kernel) ?_;refine zBl (by exact rfl) ?_;refine gN 0 Z<|aX Z<|aX Z<|aX Z<|aX Z<|aX Z<|dB h λj7 h=>bG Z .nil (iI 3 Z) (aZ Z Z (aD.fact 0 Z) Z Z j7) aP.z<|bG Z .nil (iI 3 Z) (gX (cs:=[vI ((at' o j).1),vI ((at' o j).2)]) Z (aD.fact 0 Z) bV Z Z Z Z j7) aP.z<|bK 8 Z Z<|dN h λr8 w9 h=>aG (zBi abN (QU U f g q i s r8 w9) Z (jF [0,1,2] Z)) Z λap=>aB Z<|aL<|aR<|bE<|aI ?_;cases h;exact mR Z
 refine aT<|bU Z<|aB Z<|aL ?_;refine dY h Z (λh=>?_) λh=>?_
 ·refine aK<|aT<|aA Z<|dN h λC R h=>aG (zBi abO (JK U  C R) Z .nil) Z λaq=>aL ?_;refine tP h Z (λ_ h=>?_) λ_ h=>?_
  ·refine aT<|aB Z<|aL<|aK<|Bn (B:=Value) (λk=>GG U o j k=some r) (λk m=>[(13,vI ((at' o j).1)),(14,m)]) (λk m=>[Ar cK m k]) ?_ ?_
   ·refine aT<|aB Z<|aL<|aS<|eX (dG cK)<|dZ (B:=Value) (Ca U u w v o j P) (λb n=>[(1,i),(2,vI (v)),(4,a),(5,vI (j)),(6,vP b1),(13,vI ((at' o j).1)),(14,n),(15,vI (b.2))]) (λb n=>[bS b1 [f,g] 29,Ar cK n b.1]) (([]:aY),(0:Int)) (iO) h SF (a_.ix [1,0] Z Z) ?_;intro an b n h;refine aK<|aT<|aA Z<|bN Z<|cT 0 Z<|aA Z<|dB h λt h=>aC (b_ Z Z (aD.fact 1 Z) Z Z t) Z<|aC (bX Z (aD.fact 1 Z) Z Z t) Z<|aC (fV Z (zBj (aD.fact 1 Z) t.1 t.2) Z) Z<|cN Z<|aL ?_;refine dY h Z (λh=>?_) λh=>?_
    ·refine cD<|aK<|aS<|aO<|aA Z<|cG 0 Z<|aA Z<|aA Z<|aA Z<|aA Z<|aA Z<|cB Z<|dN h λp T h=>aG (zBi CF (d f g q i s a p T) Z (jF [0,1,2,3] Z)) Z λau=>aG (cE (e:=cK) ([p]) [(0,vI (p))] Z Z Z Z (gM (vI (p)) Z) Z Z Z) Z λao=>dB h λA h=>aG (eG 2 dW Z Z Z (bB (aD.res 0 Z) dW) Z Z Z Z A Z) Z λQ=>aB Z<|eM<|jE<|aO<|aA Z<|cB Z<|aB Z<|aL ?_;exact kM ((b.1++[p]),(wI .i64 (b.2+(1:Int)))) (Q) h SF (a_.ix [1,2] Z Z) (aE.refl _ _)
    refine eR ?_;exact bZ (b.1) (n) h SF (a_.ix [1] Z Z) (aE.refl _ _)
   intro k m h;refine aT<|aA Z<|aA Z<|dN h λD S h=>aG (zBi abP (QT U m D S) Z (aE.cons (bB (aD.res 0 Z) dW) .nil)) Z λar=>aB Z<|aL<|aR<|aI<|bE<|aI ?_;cases h;exact mR Z
  refine cD<|aT<|aA Z<|cG 0 Z<|aA Z<|aA Z<|aA Z<|aA Z<|aA Z<|cB Z<|dN h λE V h=>aG (zBi CF (d f g q i s a E V) Z (jF [0,1,2,3] Z)) Z λav=>dN h λF W h=>aG (zBi abQ (Of U  F W) Z .nil) Z λaw=>aA Z<|eS Z<|eS Z<|aB Z<|aB Z<|aL<|aT<|aA Z<|aB Z<|aL<|aR<|bE<|aI ?_;cases h;exact mR Z
 refine aT<|bU Z<|aB Z<|aL ?_;refine dY h Z (λh=>?_) λh=>?_
 ·refine aK ?_;refine JR.start [0,0,0,0,0,0,0,64,254,0,0,0,0,0,0,0,49662,131070,262143,524287,1048575,1048575,2097151,8388607] 23 mixedOrders (by decide +kernel) ?_;refine zBl (by exact rfl) ?_;refine aX Z<|gN 0 Z<|aX Z<|aX Z<|aX Z<|aX Z<|aX Z<|fW Z (wH Z Z)<|dN h λG X h=>zBk Z Z Z (zBi CF (d f g q i s a G X) Z (jF [0,1,2,3] Z)) Z (λah=>(oU [] Z)) λah=>bG Z (a_.cons 0 Z .nil) .nil (eP 0 Z Z Z Z) (aP.h (a_.ix [0] Z Z) .nil aP.z)<|fW Z (eY Z)<|fW Z (eY Z)<|fW Z (eY Z)<|fW Z (eY Z)<|fW Z (eY Z)<|fW Z (eY Z)<|dN h λH Y h=>zBk Z Z Z (zBi PU (Cp U a H Y) Z (jF [3] Z)) Z (λai=>(oU [([0],[])] Z)) λai=>dN h λI aa h=>zBk Z Z Z (zBi CF (d f g q i s a I aa) Z (jF [0,1,2,3] Z)) Z (λaj=>(oU [] Z)) λaj=>dN h λJ ab h=>zBk Z Z Z (zBi abR (NA U  J ab) Z .nil) Z (λak=>(oU [] Z)) λak=>fW Z (eY Z)<|fW Z (Be Z Z)<|fW Z (Be Z Z)<|fW Z (qY Z)<|bK 23 Z Z<|aB Z<|aL<|aT<|aA Z<|aB Z<|aL<|aR<|bE<|aI ?_;cases h;exact mR Z
 refine cU<|jE<|aK<|aT<|cG 0 Z<|aA Z<|aA Z<|aA Z<|aA Z<|aA Z<|cB Z<|dN h λK ac h=>aG (zBi CF (d f g q i s a K ac) Z (jF [0,1,2,3] Z)) Z λax=>kH Z<|aL ?_;refine dY h Z (λh=>?_) λh=>?_
 ·refine aK ?_;refine JR.start [0,0,0,0,0,0,0,96,255,511] 8 mixedOrders (by decide +kernel) ?_;refine zBl (by exact rfl) ?_;refine gN 0 Z<|aX Z<|aX Z<|aX Z<|aX Z<|aX Z<|aX Z<|dN h λL ad h=>zBk Z Z Z (zBi PU (Cp U a L ad) Z (jF [3] Z)) Z (λal=>(oU [([0],[])] Z)) λal=>bK 8 Z Z<|dN h λM ae h=>aG (zBi CF (d f g q i s a M ae) Z (jF [0,1,2,3] Z)) Z λay=>aB Z<|aL<|aR<|aI ?_;cases h;exact mR Z
 refine cD<|aK ?_;refine JR.start [0,0,0,0,0,0,0,96,255,511] 8 mixedOrders (by decide +kernel) ?_;refine zBl (by exact rfl) ?_;refine gN 0 Z<|aX Z<|aX Z<|aX Z<|aX Z<|aX Z<|aX Z<|dN h λN af h=>zBk Z Z Z (zBi PU (Cp U a N af) Z (jF [3] Z)) Z (λam=>(oU [([0],[])] Z)) λam=>bK 8 Z Z<|dN h λO ag h=>aG (zBi CF (d f g q i s a O ag) Z (jF [0,1,2,3] Z)) Z λaz=>aB Z<|aL<|aR ?_;cases h;exact mR Z
theorem Nz (U:Nat):∀{e:cC} {i:bO} {j:Int} {k:Int} {m:e_} {n:Int} (a:Value)  (b:Value)  (f:jA)  (c:Value)  (g:lO)  (d:Value) (r:Int),eZ U e i j k m n=some r->
  aW Tryz.prog 126 #[Value.agg #[a,b],c,vI (j),vI (k),d,vI (n)] [Sl bR a e.1,S2 bD b f e.2,S2 bR c g i,Sl bD d m] (λx:Unit=>vI (r)) (λx l=>l) (λ_ l=>l):=by
 induction U with
 |zero=>intros;rename_i h;cases h
 |succ U o=>exact λa b f c g d r h=>QR (eZ U) U o a b f c g d r h
end Go.Proofs.YtahgemjmgopleaaGreatDoor
namespace Go.Proofs.YtahgemjmgopleaaGreatDoor
open Go Go.Sx
def TS (x:Int):Prop:= -1073741824<=x∧x<=1073741824
theorem VU (f:Nat) {x:Int} (h:TS x):oB f x=some true:=by
 unfold oB sR;rw[if_pos h.1,zA5 h.2]
theorem aaE (f:Nat) (b:Bool):fH f b=some (Mt b):=by cases b<;>rfl
theorem abz (b:Bool):TS (Mt b):=by cases b<;>exact⟨by decide,by decide⟩
theorem VX (f:Nat) (l:aY) (x:Int) (h:l.length<f) (m:l.length<=1000):uQ f l x=some (decide (x∈l)):=by
 unfold uQ;have a:=UB (step:=pI l x) (K:=some false) (bad:=some true) l.length (λk=>at' l (k:Int)≠x) (λk=>(k:Int)) (λk g b d=>by
  unfold pI;rw[if_pos (by omega),cV (by omega),if_neg d,dL (by omega)]) (λk g b d=>by
  unfold pI;rw[if_pos (by omega),cV (by omega),if_pos (zAy.1 d)]) (λg=>by
  unfold pI yH;rw[if_neg (by omega)]) f h
 by_cases c:x∈l
 ·rw[zA5 c];refine a.2 λq=> ?_;obtain⟨i,j,e⟩:=List.mem_iff_getElem.1 c;exact q i j (by rw[jI j,e])
 ·rw[zA7 c];refine a.1 λk b e=>c ?_;rw[<-e,jI b];exact List.getElem_mem b
abbrev F7:=Tj
def VS (l:aY) (s:F7):F7:=
 (if at' l s.2.2.2.2.2.2≠0 then wI .i64 (s.1+1)else s.1,(if at' l s.2.2.2.2.2.2≠0∧s.2.1<0 then s.2.2.2.2.2.2 else s.2.1),min s.2.2.1 (at' l s.2.2.2.2.2.2),max s.2.2.2.1 (at' l s.2.2.2.2.2.2),max s.2.2.2.2.1 (min s.2.2.2.1 (at' l s.2.2.2.2.2.2)),wI .i64 (s.2.2.2.2.2.1+at' l s.2.2.2.2.2.2),wI .i64 (s.2.2.2.2.2.2+1))
def Wk (l:aY):Nat->F7
 |0=>(0,-1,1073741824,-1073741824,-1073741824,0,0)
 |k+1=>VS l (Wk l k)
theorem UO (l:aY):∀k,k<=l.length->l.length<=1000->(Wk l k).1=(((l.take k).countP nz:Nat):Int)∧(Wk l k).2.2.2.2.2.2=(k:Int)
 |0,_,_=>⟨by simp[Wk],rfl⟩
 |k+1,hk,hl=>by
  obtain⟨b,c⟩:=UO l k (by omega) hl;have d:(l.take k).countP nz<=k:=zB3 List.countP_le_length (by simp;omega);unfold Wk VS;dsimp only;rw[c,b,Bq (by omega),List.countP_append,dL (by omega),dL (by omega)];refine⟨?_,rfl⟩
  by_cases a:at' l (k:Int)=0
  ·rw[if_neg (by simpa using a)];simp[nz,a]
  ·rw[if_pos a];simp[nz,a]
theorem OO (f:Nat) (o:Int) (l:aY) (h:l.length<f) (g:l.length<=1000):∃a,sD f o l=xG f o l (((l.countP nz:Nat):Int),a):=by
 refine⟨((Wk l l.length).2.1,(Wk l l.length).2.2.1,(Wk l l.length).2.2.2.1,(Wk l l.length).2.2.2.2.1,(Wk l l.length).2.2.2.2.2.1),?_⟩
 unfold sD;refine cQ (step:=nE f o l) l.length (Wk l) (λk i p=> ?_) (λi=> ?_) f h
 ·have d:=(UO l k (by omega) g).2;generalize j:Wk l k=s at d;obtain⟨r,m,t,u,v,w,n⟩:=s;have d:n=(k:Int):=d;subst d;have e:Wk l (k+1)=VS l (Wk l k):=rfl;rw[e,j];unfold nE BE BG BF VS;dsimp only;rw[if_pos (by omega)];simp only[cV (show 0<=(k:Int)∧(k:Int)<(l.length:Int) by omega)];by_cases b:at' l (k:Int)=0
  ·rw[if_neg (by simpa using b),if_neg (by simpa using b),if_neg (by decide),if_neg (by simpa using b),if_neg (by simp[b])]
  ·rw[if_pos b,if_pos b,if_pos b];by_cases c:m<0
   ·rw[zA5 c,if_pos Z,if_pos ⟨b,c⟩]
   ·rw[zA7 c,if_neg (by decide),if_neg (λq=>c q.2)]
 ·obtain⟨c,d⟩:=UO l l.length (zAd _) g;rw[List.take_length]at c;unfold nE;rw[d,if_neg (by omega),c]
theorem acE (f:Nat) (l:aY) (h:l.length<f) (b:l.length<=1000):sD f 21 l=some (MN 21 l):=by
 obtain⟨a,e⟩:=OO f 21 l h b;rw[e];unfold xG;dsimp only;rw[if_neg (by decide),if_pos Z,bA (aaE f _),MN,if_neg (by decide),if_pos Z];have:(decide ((0:Int)<((l.countP nz:Nat):Int)))=l.any nz:=by
  rw[Bool.eq_iff_iff,zA8,List.any_eq_true,show((0:Int)<((l.countP nz:Nat):Int))↔0<l.countP nz by omega,List.countP_pos_iff]
 rw[this]
theorem acF (f:Nat) (l:aY) (h:l.length+2<f) (hl:l.length<=900):sD f 27 l=some ((NV l:Nat):Int):=by
 obtain⟨a,e⟩:=OO f 27 l (by omega) (by omega);obtain⟨h1,h2,h3⟩:=SE l;rw[e];unfold xG;dsimp only;rw[if_neg (by decide),if_neg (by decide),if_neg (by decide),if_neg (by decide),if_neg (by decide),if_neg (by decide),if_neg (by decide),if_neg (by decide),if_pos Z];exact cQ (step:=xH f l) (K:=some ((NV l:Nat):Int)) (NV l) (λk=>(k:Int)) (λk ag hk=>by
  unfold xH;rw[bA (VX f l (k:Int) (by omega) (by omega)),if_pos (by simpa using h2 k hk),dL (by omega)]) (λag=>by
  unfold xH BD;rw[bA (VX f l _ (by omega) (by omega)),if_neg (by simpa using h1)]) f (by omega)
section
variable {g:GR} {c:List (List Int)} {v nv f:Nat} {T:List (Int×Int)} {k k1 j:Int} {p:Int}
theorem ahJ (l:VG g) (d:oY g nv c) (r:v<g.2.length) {q a:Nat} (o:q<(row g v).length) (s:a<nv) (n:at' T k=(12,(a:Int))) (b:0<=k∧k<(T.length:Int)):eZ (f+1) g c (v:Int) (q:Int) T k=some (at' (at' c (jT (row g v) q).1) (a:Int)):=by
 obtain⟨u,h,i⟩:=l.to r o;have t:=d.row u h;have m:=d.len;have e:(at' (at' g.2 (v:Int)) (q:Int)).1=(u:Int):=i;show qF (eZ f) f g c (v:Int) (q:Int) T k=_;unfold qF;rw[cV b,n,bA (show lR f 12=some 0 from rfl),if_pos Z,cV b];unfold CL;dsimp only;rw[if_neg (by decide),if_neg (by decide),if_neg (by decide),if_neg (by decide),if_neg (by decide),if_pos Z,cV (by omega),cV (by show 0<=(q:Int)∧(q:Int)<((row g v).length:Int);omega),e,cV (by omega),cV (by omega)];rfl
theorem alm (d:oY g nv c) (i:v<g.2.length) {a:Nat} (l:a<nv) (h:at' T k=(5,(a:Int))) (b:0<=k∧k<(T.length:Int)):eZ (f+1) g c (v:Int) p T k=some (at' (at' c (v:Int)) (a:Int)):=by
 have m:=d.row v i;have e:=d.len;show qF (eZ f) f g c (v:Int) p T k=_;unfold qF;rw[cV b,h,bA (show lR f 5=some 0 from rfl),if_pos Z,cV b];unfold CL;dsimp only;rw[if_neg (by decide),if_neg (by decide),if_neg (by decide),if_neg (by decide),if_pos Z,cV (by omega),cV (by omega)];rfl
theorem rBi {o x y z a:Int} (A:30<=o) (B:o<=42) (r:at' T k=(o,a)) (d:0<=k∧k<(T.length:Int)) (b:wI .i64 (k+1)=k1) (q:sO f T k 1=some j) (t:eZ f g c (v:Int) p T k1=some x) (u:eZ f g c (v:Int) p T j=some y) (e:TS x) (h:TS y)
  (w:w_ f o x y=some z) (i:TS z):eZ (f+1) g c (v:Int) p T k=some z:=by
 have n:lR f o=some 2:=by
  unfold lR Ax Ay Az;rw[if_pos (by omega),zA7 (by omega),if_neg (by decide),if_pos (by omega),zA7 (by omega),if_neg (by decide),if_pos (by omega),zA5 (by omega),if_pos Z]
 show qF (eZ f) f g c (v:Int) p T k=_;unfold qF;rw[cV d,r,bA n,if_neg (by decide),if_neg (by decide),if_pos Z,b,bA (show eZ f _ c (v:Int) p T k1=_ from t),bA q,bA (show eZ f _ c (v:Int) p T j=_ from u)];unfold Dg pH;dsimp only;rw[if_neg (by omega),if_neg (by omega),bA (VU f e),if_neg (by decide),bA (VU f h),if_neg (by decide),bA w];have s:nL f z=some z:=by
  unfold nL;obtain⟨l,m⟩:=i;rw[Int.max_eq_left l,Int.min_eq_left m]
 rw[bA s];rfl
theorem rAg (hV:VG g) (hv:v<g.2.length) {o a:Int} (ho:o=21∨o=27) (hf:100<=f) (hk:at' T k=(o,a)) (hkr:0<=k∧k<(T.length:Int)) (hk1:wI .i64 (k+1)=k1) {F:Nat->Int} (hF:∀q:Nat,q<(row g v).length->eZ f g c (v:Int) (q:Int) T k1=some (F q)):eZ (f+1) g c (v:Int) p T k=some (MN o ((List.range (row g v).length).map F)):=by
 have hd:=(hV.node v hv).deg;have h24:=hV.n24;have ha:lR f o=some 1:=by rcases ho with rfl|rfl<;>rfl
 have hg:Ak f o=some true:=by rcases ho with rfl|rfl<;>rfl
 have hdeg:(row g v).length<=24:=by omega
 show qF (eZ f) f g c (v:Int) p T k=_;unfold qF;rw[cV hkr,hk,bA ha,if_neg (by decide),if_pos Z,bA hg,if_pos Z];refine cQ (step:=Ca f g c (v:Int) T k (eZ f)) (row g v).length (λq=>((List.range q).map F,(q:Int))) (λq ag hq=> ?_) (λag=> ?_) f (by omega)
 ·unfold Ca;dsimp only;rw[cV (by omega),if_pos (show(q:Int)<((row g v).length:Int) by omega),hk1,bA (show eZ f _ c (v:Int) (q:Int) T k1=_ from hF q hq),cV (by simp;omega),dL (by omega),zB2,zB8,zB1]
 ·unfold Ca GG;dsimp only;rw[cV (by omega),if_neg (show¬((row g v).length:Int)<((row g v).length:Int) by omega),hk];dsimp only;have hl:((List.range (row g v).length).map F).length=(row g v).length:=by simp
  rcases ho with rfl|rfl
  ·rw[bA (acE f _ (by omega) (by omega))]
  ·rw[bA (acF f _ (by omega) (by omega))];rfl
end
theorem adU {g:GR} {a:List Kb} (b:jQ g a) {x:Nat} (c:x<a.length) (v:Nat):lo g (at' a (x:Int)) v<=hi g (at' a (x:Int)) v:=by
 rcases b.kind x c with k|k|k
 ·have h:=(b.range x c k).2.1;unfold lo hi at h ⊢;rw[k]at h ⊢;simpa using h
 ·unfold lo hi;rw[k];simp
 ·unfold lo hi;rw[k];simp;omega
theorem WW {g:GR} {a:List Kb} (b:jQ g a) {x:Nat} (c:x<a.length) (v:Nat) (y:Int):lo g (at' a (x:Int)) v<=Gq (at' a (x:Int)).2.1 (zV g a v x) y∧Gq (at' a (x:Int)).2.1 (zV g a v x) y<=hi g (at' a (x:Int)) v:=by
 have h:=adU b c v;unfold Gq zV;dsimp only;split
 ·assumption
 ·split
  ·rename_i k;unfold lo hi;rw[k];simp;omega
  ·split<;>omega
section
variable {S:Et} {vars:List Kb} {R:List RL} {c:List (List Int)} {t v:Nat}
theorem aay (f:jQ S.2.1 vars) {a:List Int} (d:a.length=vars.length) (h:∀x,x<vars.length->lo S.2.1 (at' vars (x:Int)) v<=at' a (x:Int)∧at' a (x:Int)<=hi S.2.1 (at' vars (x:Int)) v) (s:Nat×E):
  (HL S vars c v a s).length=vars.length∧∀x,x<vars.length->lo S.2.1 (at' vars (x:Int)) v<=at' (HL S vars c v a s) (x:Int)∧at' (HL S vars c v a s) (x:Int)<=hi S.2.1 (at' vars (x:Int)) v:=by
 unfold HL;refine⟨by rw[zA1,d],λx b=> ?_⟩
 by_cases g:s.1<a.length
 ·rw[CX a s.1 x _ g];split
  ·rename_i e;rw[<-e];exact WW f b v _
  ·exact h x b
 ·rw[List.set_eq_of_length_le (by omega)];exact h x b
theorem OZ (k:jQ S.2.1 vars) (h:HC S.2.1 c vars) (j:v<S.2.1.2.length) (i:Int):(As S vars R c v i).length=vars.length∧∀x,x<vars.length->lo S.2.1 (at' vars (x:Int)) v<=at' (As S vars R c v i) (x:Int)∧at' (As S vars R c v i) (x:Int)<=hi S.2.1 (at' vars (x:Int)) v:=by
 have g:∀(l:List (Nat×E)) (d:List Int),d.length=vars.length->(∀x,x<vars.length->lo S.2.1 (at' vars (x:Int)) v<=at' d (x:Int)∧at' d (x:Int)<=hi S.2.1 (at' vars (x:Int)) v)->
   (l.foldl (HL S vars c v) d).length=vars.length∧∀x,x<vars.length->lo S.2.1 (at' vars (x:Int)) v<=at' (l.foldl (HL S vars c v) d) (x:Int)∧at' (l.foldl (HL S vars c v) d) (x:Int)<=hi S.2.1 (at' vars (x:Int)) v:=by
  intro l
  induction l with
  |nil=>intro d e f;exact⟨e,f⟩
  |cons s l m=>
   intro d e f;obtain⟨a,b⟩:=aay (c:=c) k e f s;exact m _ a b
 exact g _ _ (h.row v j) (h.ok v j)
theorem KA (e:jQ S.2.1 vars) (a:HC S.2.1 c vars):HC S.2.1 (gT S vars R c t) vars:=by
 have d:=a.len;refine⟨by rw[Pf,d],λv b=> ?_,λv b x f=> ?_⟩
 ·rw[JA (by omega)];split
  ·exact(OZ e a b _).1
  ·exact a.row v b
 ·unfold val;rw[JA (by omega)];split
  ·exact(OZ e a b _).2 x f
  ·exact a.ok v b x f
end
end Go.Proofs.YtahgemjmgopleaaGreatDoor
namespace Go.Proofs.YtahgemjmgopleaaGreatDoor
open Go.Sx
def AH  (a:Unit):Option (Int):=
 some (-1:Int)
def vA (U:Nat) (c:iH) (e:cC) (f:bO) (g:Int) (a:Int) (b:(Int)->Option (Int)):Option (Int):=
 if a<(c.2.2.length:Int)then(ck (0<=a∧a<(c.2.2.length:Int)) (Option.bind (eZ U ((e.1,e.2)) f g (-1:Int) ((at' c.2.2 a).2.1.2) (0:Int)) λd=>(if d≠(0:Int)then(some (a))else(b (wI .i64 (a+(1:Int)))))))else(AH  (()))
def nD (U:Nat) (a:iH) (b:cC) (c:bO) (d:Int):Option (Int):=
 bL (vA U a b c d) U (0:Int)
theorem Vk:aU Tryz.prog 124:=Tryz.call124
theorem If (U:Nat) {b:iH} {k:cC} {o:bO} {m:Int} (e:Value)  (f:Value)  (g:Value)  (i:Value)  (w:jA)  (n:Value)  (y:lO) (r:Int) (h:nD U b k o m=some r):
  aW Tryz.prog 124 #[Value.agg #[vS (b.1),e,f],Value.agg #[g,i],n,vI (m)] [Sl aN e b.2.1,Sl aJ f b.2.2,PF (Value.agg #[vS b.1,e,f]),Sl bR g k.1,S2 bD i w k.2,S2 bR n y o] (λx:Unit=>vI (r)) (λx l=>l) (λ_ l=>l):=by
 refine aW.of Tryz.func124 Z Tryz.ntmps124 Z λc=>?_;unfold nD at h;refine aT<|aG (aM.box (cs:=[vS (b.1),e,f]) Z Z) Z λs=>aG (aM.box (cs:=[g,i]) Z Z) Z λt=>aB Z<|aL<|aK<|dQ (λj=>AH  j=some r) (λj u=>[]) (λj u=>[]) ?_ ?_
 ·refine aT<|aB Z<|aL<|aS<|dZ (vA U b k o m) (λd v=>[(2,n),(3,vI (m)),(4,vP s),(5,vP t),(9,vI (d))]) (λd v=>[bS t [g,i] 29,bS s [vS (b.1),e,f] 36]) (0:Int) () h SF (a_.refl _) ?_;intro B d v h;refine aK<|aT<|aA Z<|bN Z<|cT 1 Z<|gW (aD.fact 1 Z) Z<|cN Z<|aL ?_;refine dY h Z (λh=>?_) λh=>?_
  ·refine cD<|aK<|aS<|aK ?_;refine JR.start [0,0,0,0,8,0,56,120,248,511,1023] 9 mixedOrders (by decide +kernel) ?_;refine zBl (by exact rfl) ?_;refine gN 0 Z<|aX Z<|aX Z<|cP Z<|fG 1 Z<|aX Z<|dB h λa h=>bG Z .nil (iI 1 Z) (aZ Z Z (aD.fact 0 Z) Z Z a) aP.z<|fW Z (dX Z Z Z Z Z)<|bG Z .nil (iI 1 Z) (fD Z (aD.fact 0 Z) Z Z Z tI a) aP.z<|bK 9 Z Z<|dN h λp q h=>aG (zBi CF (Nz U g i w n y ((at' b.2.2 d).2.1.1) p q) Z (aE.cons (aD.fact 3 Z) (aE.cons (aD.fact 4 Z) (aE.cons (aD.fact 5 Z) (aE.cons (jN (aD.fact 1 Z) tK a.1 a.2) .nil))))) Z λA=>kH Z<|aL ?_;refine dY h Z (λh=>?_) λh=>?_
   ·refine aT<|aA Z<|aB Z<|aL<|aR<|bE<|aI<|aI<|bE<|aI ?_;cases h;exact mR Z
   refine cU<|jE<|aO<|aA Z<|cB Z<|aB Z<|aL ?_;exact uG (wI .i64 (d+(1:Int))) () h SF Z
  refine eR ?_;exact bZ () (()) h SF .nil (aE.refl _ _)
 intro j u h;unfold AH at h;refine aT<|aB Z<|aL<|aR ?_;cases h;exact gF Z
def wA  (a:Int):Option (Int):=
 some (a)
def rO (c:eV) (b:fO->Option (Int)) (a:Int):Option (Int):=
 b (a,(wI .i64 (c.2+(1:Int))))
def nN (U:Nat) (c:iH) (e:cC) (f:bO) (a:eV) (b:fO->Option (Int)):Option (Int):=
 if a.2<(f.length:Int)then(Option.bind (nD U ((c.1,c.2.1,c.2.2)) ((e.1,e.2)) f a.2) λd=>(if(0:Int)<=d then(ck (0<=(wI .u64 a.2)) (rO a b (I_ .u32 a.1 (AS .u32 (1:Int) (wI .u64 a.2)))))else(rO a b (a.1))))else(wA  (a.1))
def kY (U:Nat) (a:iH) (b:cC) (c:bO):Option (Int):=
 bL (nN U a b c) U ((0:Int),(0:Int))
theorem YO:aU Tryz.prog 82:=Tryz.call82
theorem FW (U:Nat) {d:iH} {n:cC} {s:bO} (e:Value)  (f:Value)  (g:Value)  (i:Value)  (z:jA)  (o:Value)  (A:lO) (r:Int) (h:kY U d n s=some r):
  aW Tryz.prog 82 #[Value.agg #[vS (d.1),e,f],Value.agg #[g,i],o] [Sl aN e d.2.1,Sl aJ f d.2.2,PF (Value.agg #[vS d.1,e,f]),Sl bR g n.1,S2 bD i z n.2,S2 bR o A s] (λx:Unit=>vU (r)) (λx l=>l) (λ_ l=>l):=by
 refine aW.of Tryz.func82 Z Tryz.ntmps82 Z λc=>?_;unfold kY at h;refine aT<|aG (aM.box (cs:=[vS (d.1),e,f]) Z Z) Z λp=>aG (aM.box (cs:=[g,i]) Z Z) Z λq=>aB Z<|aL<|aT<|aB Z<|aL<|aK<|dQ (λj=>wA  j=some r) (λj y=>[(7,vU (j))]) (λj y=>[]) ?_ ?_
 ·refine aT<|aB Z<|aL<|aS<|dZ (nN U d n s) (λb k=>[(2,o),(3,vP p),(4,vP q),(7,vU (b.1)),(8,vI (b.2))]) (λb k=>[bS q [g,i] 29,bS p [vS (d.1),e,f] 36]) ((0:Int),(0:Int)) () h SF (a_.refl _) ?_;intro u b k h;refine aK<|aT<|aA Z<|aA Z<|aC (gE Z (aD.fact 5 Z) Z) Z<|cN Z<|aL ?_;refine dY h Z (λh=>?_) λh=>?_
  ·refine cD<|aK<|dQ (λa=>rO b (bL (nN U d n s) u) a=some r) (λa m=>[(2,o),(3,vP p),(4,vP q),(7,vU (a)),(8,vI (b.2))]) (λa m=>[bS q [g,i] 29,bS p [vS (d.1),e,f] 36]) ?_ ?_
   ·refine aS<|aT<|cG 1 Z<|cG 0 Z<|aA Z<|aA Z<|dN h λv w h=>aG (zBi Vk (If U e f g i z o A v w) Z (jF [0,1,2,3,4,5] Z)) Z λB=>aC (zJ Z Z) Z<|aL ?_;refine dY h Z (λh=>?_) λh=>?_
    ·refine aO<|aA Z<|aA Z<|aC (EX Z Z Z) Z<|dB h λt h=>aC (HQ Z Z t) Z<|aC (PG Z Z) Z<|aB Z<|eM<|jE ?_;exact fE (I_ .u32 b.1 (AS .u32 (1:Int) (wI .u64 b.2))) () h SF Z
    refine cU<|jE ?_;exact fE (b.1) () h SF Z
   intro a m h;unfold rO at h;refine aO<|aA Z<|cB Z<|aB Z<|aL ?_;exact uG (a,(wI .i64 (b.2+(1:Int)))) () h SF Z
  refine eR ?_;exact bZ (b.1) () h SF .nil (aE.refl _ _)
 intro j y h;unfold wA at h;refine aT<|aA Z<|aB Z<|aL<|aR ?_;cases h;exact gF Z
def lS (U:Nat) (b:iH) (c:cC) (d:Int) (a:Int):Option fO:=
 ck (0<=a∧a<(b.2.1.length:Int)) (if((at' b.2.1 a).2.1)=(2:Int)then(some ((0:Int),(1:Int)))else(if((at' b.2.1 a).2.1)=(3:Int)then(ck (0<=d∧d<(c.2.length:Int)) (some ((-1:Int),(wI .i64 (((at' c.2 d).length:Int) - (1:Int))))))else(ck (0<=a∧a<(b.2.1.length:Int)) (ck (0<=a∧a<(b.2.1.length:Int)) (ck (0<=a∧a<(b.2.1.length:Int)) (ck (0<=a∧a<(b.2.1.length:Int)) (Option.bind (nK U ((c.1,c.2))) λe=>(some (((at' b.2.1 a).2.2.1),(wI .i64 ((wI .i64 (((at' b.2.1 a).2.2.2.1)+(wI .i64 (((at' b.2.1 a).2.2.2.2.1)*(c.2.length:Int)))))+(wI .i64 (((at' b.2.1 a).2.2.2.2.2)*e)))))))))))))
theorem Ug:aU Tryz.prog 77:=Tryz.call77
theorem FC (U:Nat) {a:iH} {j:cC} {t:Int} {u:Int} (e:Value)  (f:Value)  (g:Value)  (i:Value)  (v:jA) (r:eV) (h:lS U a j t u=some r):
  aW Tryz.prog 77 #[Value.agg #[vS (a.1),e,f],Value.agg #[g,i],vI (t),vI (u)] [Sl aN e a.2.1,Sl aJ f a.2.2,PF (Value.agg #[vS a.1,e,f]),Sl bR g j.1,S2 bD i v j.2] (λx:Unit=>Value.tuple #[vI (r.1),vI (r.2)]) (λx l=>l) (λ_ l=>l):=by
 refine aW.of Tryz.func77 Z Tryz.ntmps77 Z λc=>?_;refine aT<|aG (aM.box (cs:=[vS (a.1),e,f]) Z Z) Z λw=>aG (aM.box (cs:=[g,i]) Z Z) Z λy=>aB Z<|aB Z<|aL<|aK<|aT<|bN Z<|cT 1 Z<|aA Z<|dB h λo h=>aC (aZ Z Z (aD.fact 0 Z) Z Z o) Z<|aC (dX Z Z Z Z Z) Z<|aC (fD Z (aD.fact 0 Z) Z Z Z lD o) Z<|aL<|aS<|aT<|bU Z<|aB Z<|aL ?_;refine dY h Z (λh=>?_) λh=>?_
 ·refine aT<|aB Z<|aB Z<|aL<|aR<|bE<|aI ?_;cases h;exact eW () Z Z (RV.tmp Z) (RV.tmp Z) .nil aE.nil
 refine aT<|bU Z<|aB Z<|aL ?_;refine dY h Z (λh=>?_) λh=>?_
 ·refine aK ?_;refine JR.start [0,1,0,7,15,31,63,0,255] 8 mixedOrders (by decide +kernel) ?_;refine zBl (by exact rfl) ?_;refine cP Z<|fG 0 Z<|aX Z<|dB h λd h=>bG Z .nil (iI 4 Z) (b_ Z Z (aD.fact 0 Z) Z Z d) aP.z<|bG Z .nil (iI 4 Z) (bX Z (aD.fact 0 Z) Z Z d) aP.z<|bG Z .nil (iI 4 Z) (fV Z (zBj (aD.fact 0 Z) d.1 d.2) Z) aP.z<|fW Z (mM Z Z)<|fW Z (qY Z)<|bK 8 Z Z<|aB Z<|aL<|aR<|bE<|aI ?_;cases h;exact eW () Z Z (RV.tmp Z) (RV.tmp Z) .nil aE.nil
 refine cU<|jE<|aK ?_;refine JR.start [0,1,0,7,15,31,0,64,0,448,960,1984,0,4096,0,28672,61440,126976,0,262144,786432,2093056,4194240,0,8388608,0,58720256,125829120,260046848,0,536870912,2139095040,4294967232,1610612799,17179869183] 34 mixedOrders (by decide +kernel) ?_;refine zBl (by exact rfl) ?_;refine cP Z<|fG 1 Z<|aX Z<|dB h λp h=>bG Z .nil (iI 0 Z) (aZ Z Z (aD.fact 0 Z) Z Z p) aP.z<|fW Z (dX Z Z Z Z Z)<|bG Z .nil (iI 0 Z) (fD Z (aD.fact 0 Z) Z Z Z AV p) aP.z<|cP Z<|fG 1 Z<|aX Z<|dB h λq h=>bG Z .nil (iI 0 Z) (aZ Z Z (aD.fact 0 Z) Z Z q) aP.z<|fW Z (dX Z Z Z Z Z)<|bG Z .nil (iI 0 Z) (fD Z (aD.fact 0 Z) Z Z Z AW q) aP.z<|cP Z<|fG 1 Z<|aX Z<|dB h λs h=>bG Z .nil (iI 0 Z) (aZ Z Z (aD.fact 0 Z) Z Z s) aP.z<|fW Z (dX Z Z Z Z Z)<|bG Z .nil (iI 0 Z) (fD Z (aD.fact 0 Z) Z Z Z AX s) aP.z<|cP Z<|fG 0 Z<|bG Z .nil (iI 4 Z) (gE Z (aD.fact 0 Z) Z) aP.z<|fW Z (zT Z Z)<|fW Z (wH Z Z)<|cP Z<|fG 1 Z<|aX Z<|dB h λb h=>bG Z .nil (iI 0 Z) (aZ Z Z (aD.fact 0 Z) Z Z b) aP.z<|fW Z (dX Z Z Z Z Z)<|bG Z .nil (iI 0 Z) (fD Z (aD.fact 0 Z) Z Z Z AY b) aP.z<|gN 0 Z<|dN h λk m h=>zBk Z Z Z (zBi Vj (EJ U g i v k m) Z (jF [3,4] Z)) Z (λn=>(oU [([],[0]),([],[0]),([1],[]),([],[4]),([0],[]),([],[0]),([],[0]),([1],[]),([],[0]),([],[0]),([1],[]),([],[0]),([],[0]),([1],[])] Z)) λn=>fW Z (zT Z Z)<|fW Z (wH Z Z)<|fW Z (qY Z)<|bK 34 Z Z<|aB Z<|aL<|aR ?_;cases h;exact eW () Z Z (RV.tmp Z) (RV.tmp Z) .nil aE.nil
def Bz  (a:Unit):Option (Int):=
 some (0:Int)
def BA (b:Int) (a:(Int)->Option (Int)) (c:Bool):Option (Int):=
 if c=true then(some (9:Int))else(a (wI .i64 (b+(1:Int))))
def tC (U:Nat) (c:iH) (f:cC) (a:Int) (b:(Int)->Option (Int)):Option (Int):=
 if a<(c.2.1.length:Int)then(Option.bind (lS U ((c.1,c.2.1,c.2.2)) ((f.1,f.2)) (0:Int) a) λd=>(ck (0<=a∧a<(c.2.1.length:Int)) (if((at' c.2.1 a).2.1)=(1:Int)then(Option.bind (qE U (wI .i64 (d.2 - d.1)) (0:Int) (4095:Int)) λe=>(BA a b ((!e))))else(BA a b (false)))))else(Bz  (()))
def Al (U:Nat) (a:iH) (b:cC):Option (Int):=
 Option.bind (Ed U ((a.1,a.2.1,a.2.2))) λc=>(if(!c)=true then(some (8:Int))else(Option.bind (iZ U ((b.1,b.2))) λd=>(if(!d)=true then(some (1:Int))else(bL (tC U a b) U (0:Int)))))
theorem aeK:aU Tryz.prog 76:=Tryz.call76
theorem QP (U:Nat) {d:iH} {p:cC} (f:Value)  (g:Value)  (i:Value)  (j:Value)  (z:jA) (r:Int) (h:Al U d p=some r):
  aW Tryz.prog 76 #[Value.agg #[vS (d.1),f,g],Value.agg #[i,j]] [Sl aN f d.2.1,Sl aJ g d.2.2,PF (Value.agg #[vS d.1,f,g]),Sl bR i p.1,S2 bD j z p.2] (λx:Unit=>vI (r)) (λx l=>l) (λ_ l=>l):=by
 refine aW.of Tryz.func76 Z Tryz.ntmps76 Z λc=>?_;refine aT<|aG (aM.box (cs:=[vS (d.1),f,g]) Z Z) Z λs=>aG (aM.box (cs:=[i,j]) Z Z) Z λt=>aB Z<|aL<|aK<|aT<|cG 1 Z<|dN h λA C h=>aG (zBi PQ (Oc U f g A C) Z (jF [0,1,2] Z)) Z λG=>aC (jC Z) Z<|aL ?_;refine tP h Z (λ_ h=>?_) λ_ h=>?_
 ·refine aT<|aB Z<|aL<|aR<|aI ?_;cases h;exact mR Z
 refine cD<|aK<|aT<|cG 0 Z<|dN h λB D h=>aG (zBi Uf (Ek U i j z B D) Z (jF [3,4] Z)) Z λH=>aC (jC Z) Z<|aL ?_;refine tP h Z (λ_ h=>?_) λ_ h=>?_
 ·refine aT<|aB Z<|aL<|aR<|aI ?_;cases h;exact mR Z
 refine cD<|aK<|dQ (λe=>Bz  e=some r) (λe k=>[]) (λe k=>[]) ?_ ?_
 ·refine aT<|aB Z<|aL<|aS<|dZ (tC U d p) (λa m=>[(2,vP s),(3,vP t),(5,vI (a))]) (λa m=>[bS t [i,j] 29,bS s [vS (d.1),f,g] 36]) (0:Int) () h SF (a_.refl _) ?_;intro u a m h;refine aK<|aT<|aA Z<|bN Z<|cT 1 Z<|gW (aD.fact 0 Z) Z<|cN Z<|aL ?_;refine dY h Z (λh=>?_) λh=>?_
  ·refine cD<|aK<|aS<|aT<|cG 1 Z<|cG 0 Z<|aA Z<|dN h λv w h=>aG (zBi Ug (FC U f g i j z v w) Z (jF [0,1,2,3,4] Z)) Z λE=>aA Z<|eS Z<|eS Z<|aB Z<|aB Z<|aL<|aK<|dQ (λb=>BA a (bL (tC U d p) u) b=some r) (λb n=>[(2,vP s),(3,vP t),(5,vI (a)),(41,vB (b))]) (λb n=>[bS t [i,j] 29,bS s [vS (d.1),f,g] 36]) ?_ ?_
   ·refine aO<|bN Z<|cT 1 Z<|aA Z<|dB h λo h=>aC (aZ Z Z (aD.fact 0 Z) Z Z o) Z<|aC (dX Z Z Z Z Z) Z<|aC (fD Z (aD.fact 0 Z) Z Z Z lD o) Z<|bU Z<|aA Z ?_;refine AP h Z (λ_ h=>?_) λ_ h=>?_
    ·refine cJ Z<|cJ Z<|aQ Z (mM Z Z) Z<|dN h λq y h=>iP Z (zBi Iu (zG U  q y) Z .nil) Z λF=>aQ Z (jC Z) Z<|dC Z<|aL ?_;exact fE ((!q)) () h SF Z
    refine aH Z<|aH Z<|aH Z<|aH Z<|aH Z<|dR Z<|aL ?_;exact fE (false) () h SF Z
   intro b n h;refine tP h Z (λ_ h=>?_) λ_ h=>?_
   ·refine aT<|aB Z<|aL<|aR<|bE<|aI<|aI<|bE<|aI ?_;cases h;exact mR Z
   refine cU<|jE<|aO<|aA Z<|cB Z<|aB Z<|aL ?_;exact uG (wI .i64 (a+(1:Int))) () h SF Z
  refine eR ?_;exact bZ () (()) h SF .nil (aE.refl _ _)
 intro e k h;unfold Bz at h;refine aT<|aB Z<|aL<|aR ?_;cases h;exact gF Z
def AB  (a:Unit):Option (Int):=
 some (0:Int)
def AC (b:Int) (a:(Int)->Option (Int)) (c:Unit):Option (Int):=
 a (wI .i64 (b+(1:Int)))
def u_ (U:Nat) (g:iH) (i:cC) (e:bO) (a:Int) (c:(Int)->Option (Int)) (b:Int) (d:(Int)->Option (Int)):Option (Int):=
 ck (0<=a∧a<(e.length:Int)) (if b<((at' e a).length:Int)then(Option.bind (lS U ((g.1,g.2.1,g.2.2)) ((i.1,i.2)) a b) λf=>(ck (0<=a∧a<(e.length:Int)) (ck (0<=b∧b<((at' e a).length:Int)) (Option.bind (qE U (at' (at' e a) b) f.1 f.2) λh=>(if(!h)=true then(some (10:Int))else(d (wI .i64 (b+(1:Int)))))))))else(AC a c (())))
def oI (U:Nat) (d:iH) (e:cC) (c:bO) (a:Int) (b:(Int)->Option (Int)):Option (Int):=
 if a<(c.length:Int)then(ck (0<=a∧a<(c.length:Int)) (if((at' c a).length:Int)≠(d.2.1.length:Int)then(some (10:Int))else(bL (u_ U d e c a b) U (0:Int))))else(AB  (()))
def kL (U:Nat) (a:iH) (b:cC) (c:bO):Option (Int):=
 Option.bind (Al U ((a.1,a.2.1,a.2.2)) ((b.1,b.2))) λd=>(if d≠(0:Int)then(some (d))else(if(c.length:Int)≠(b.2.length:Int)then(some (10:Int))else(bL (oI U a b c) U (0:Int))))
theorem Ue:aU Tryz.prog 44:=Tryz.call44
theorem Em (U:Nat) {d:iH} {o:cC} {s:bO} (j:Value)  (k:Value)  (m:Value)  (n:Value)  (G:jA)  (A:Value)  (N:lO) (r:Int) (h:kL U d o s=some r):
  aW Tryz.prog 44 #[Value.agg #[vS (d.1),j,k],Value.agg #[m,n],A] [Sl aN j d.2.1,Sl aJ k d.2.2,PF (Value.agg #[vS d.1,j,k]),Sl bR m o.1,S2 bD n G o.2,S2 bR A N s] (λx:Unit=>vI (r)) (λx l=>l) (λ_ l=>l):=by
 refine aW.of Tryz.func44 Z Tryz.ntmps44 Z λc=>?_;refine aT<|aG (aM.box (cs:=[vS (d.1),j,k]) Z Z) Z λp=>aG (aM.box (cs:=[m,n]) Z Z) Z λq=>aB Z<|aL<|aK<|aT<|cG 1 Z<|cG 0 Z<|dN h λJ K h=>aG (zBi aeK (QP U j k m n G J K) Z (jF [0,1,2,3,4] Z)) Z λO=>aB Z<|aL<|aT<|aA Z<|kH Z<|aL ?_;refine dY h Z (λh=>?_) λh=>?_
 ·refine aT<|aA Z<|aB Z<|aL<|aR<|aI ?_;cases h;exact mR Z
 refine cD<|aK<|aT<|aA Z<|aC (gE Z (aD.fact 5 Z) Z) Z<|bN Z<|cT 0 Z<|aC (gE Z (aD.fact 4 Z) Z) Z<|kH Z<|aL ?_;refine dY h Z (λh=>?_) λh=>?_
 ·refine aT<|aB Z<|aL<|aR<|aI ?_;cases h;exact mR Z
 refine cD<|aK<|dQ (λB=>AB  B=some r) (λB H=>[]) (λB H=>[]) ?_ ?_
 ·refine aT<|aB Z<|aL<|aS<|dZ (oI U d o s) (λa t=>[(2,A),(3,vP p),(4,vP q),(8,vI (a))]) (λa t=>[bS q [m,n] 29,bS p [vS (d.1),j,k] 36]) (0:Int) () h SF (a_.refl _) ?_;intro y a t h;refine aK<|aT<|aA Z<|aA Z<|aC (gE Z (aD.fact 5 Z) Z) Z<|cN Z<|aL ?_;refine dY h Z (λh=>?_) λh=>?_
  ·refine cD<|aK<|dQ (λe=>AC a (bL (oI U d o s) y) e=some r) (λe u=>[(2,A),(3,vP p),(4,vP q),(8,vI (a))]) (λe u=>[bS q [m,n] 29,bS p [vS (d.1),j,k] 36]) ?_ ?_
   ·refine aS<|aK<|aK ?_;refine JR.start [0,0,3,7,15,0,32,96,255] 8 mixedOrders (by decide +kernel) ?_;refine zBl (by exact rfl) ?_;refine aX Z<|aX Z<|dB h λg h=>bG Z .nil (iI 5 Z) (b_ Z Z (aD.fact 0 Z) Z Z g) aP.z<|bG Z .nil (iI 5 Z) (bX Z (aD.fact 0 Z) Z Z g) aP.z<|bG Z .nil (iI 5 Z) (fV Z (zBj (aD.fact 0 Z) g.1 g.2) Z) aP.z<|cP Z<|fG 1 Z<|bG Z .nil (iI 0 Z) (fV Z (aD.fact 0 Z) Z) aP.z<|bK 8 Z Z<|kH Z<|aL ?_;refine dY h Z (λh=>?_) λh=>?_
    ·refine aT<|aB Z<|aL<|aR<|aI<|bE<|aI<|aI<|bE<|aI ?_;cases h;exact mR Z
    refine cD<|aT<|aB Z<|aL<|aS<|dZ (u_ U d o s a (bL (oI U d o s) y)) (λf v=>[(2,A),(3,vP p),(4,vP q),(8,vI (a)),(9,vI (f))]) (λf v=>[bS q [m,n] 29,bS p [vS (d.1),j,k] 36]) (0:Int) () h SF (a_.refl _) ?_;intro I f v h;refine aK<|aT<|aA Z<|aA Z<|aA Z<|dB h λi h=>aC (b_ Z Z (aD.fact 5 Z) Z Z i) Z<|aC (bX Z (aD.fact 5 Z) Z Z i) Z<|aC (fV Z (zBj (aD.fact 5 Z) i.1 i.2) Z) Z<|cN Z<|aL ?_;refine dY h Z (λh=>?_) λh=>?_
    ·refine cD<|aK<|aS<|aT<|cG 1 Z<|cG 0 Z<|aA Z<|aA Z<|dN h λC E h=>aG (zBi Ug (FC U j k m n G C E) Z (jF [0,1,2,3,4] Z)) Z λL=>aA Z<|eS Z<|eS Z<|aB Z<|aB Z<|aL<|aT<|aA Z<|aA Z<|dB h λb h=>aC (b_ Z Z (aD.fact 5 Z) Z Z b) Z<|aC (bX Z (aD.fact 5 Z) Z Z b) Z<|aA Z<|dB h λw h=>aC (aZ Z Z (zBj (aD.fact 5 Z) b.1 b.2) Z Z w) Z<|aC (bY Z (zBj (aD.fact 5 Z) b.1 b.2) Z Z Z eD w) Z<|aA Z<|aA Z<|dN h λD F h=>aG (zBi Iu (zG U  D F) Z .nil) Z λM=>aC (jC Z) Z<|aL ?_;refine tP h Z (λ_ h=>?_) λ_ h=>?_
     ·refine aT<|aB Z<|aL<|aR<|bE<|aI<|aI<|bE<|bE<|aI<|aI<|bE<|aI ?_;cases h;exact mR Z
     refine cU<|jE<|aO<|aA Z<|cB Z<|aB Z<|aL ?_;exact uG (wI .i64 (f+(1:Int))) () h SF Z
    refine mJ<|d_<|d_<|sJ<|jE ?_;exact fE () (()) h SF Z
   intro e u h;unfold AC at h;refine aO<|aA Z<|cB Z<|aB Z<|aL ?_;exact uG (wI .i64 (a+(1:Int))) () h SF Z
  refine eR ?_;exact bZ () (()) h SF .nil (aE.refl _ _)
 intro B H h;unfold AB at h;refine aT<|aB Z<|aL<|aR ?_;cases h;exact gF Z
def wZ (U:Nat) (a:iH) (b:cC) (c:bO):Option Bool:=
 Option.bind (kL U ((a.1,a.2.1,a.2.2)) ((b.1,b.2)) c) λd=>(some (decide (d=(0:Int))))
theorem aeT:aU Tryz.prog 99:=Tryz.call99
theorem Oe (U:Nat) {a:iH} {g:cC} {j:bO} (b:Value)  (d:Value)  (e:Value)  (f:Value)  (k:jA)  (i:Value)  (m:lO) (r:Bool) (h:wZ U a g j=some r):
  aW Tryz.prog 99 #[Value.agg #[vS (a.1),b,d],Value.agg #[e,f],i] [Sl aN b a.2.1,Sl aJ d a.2.2,PF (Value.agg #[vS a.1,b,d]),Sl bR e g.1,S2 bD f k g.2,S2 bR i m j] (λx:Unit=>vB (r)) (λx l=>l) (λ_ l=>l):=by
 refine aW.of Tryz.func99 Z Tryz.ntmps99 Z λc=>?_;refine aT<|aG (aM.box (cs:=[vS (a.1),b,d]) Z Z) Z λp=>aG (aM.box (cs:=[e,f]) Z Z) Z λq=>aB Z<|aL<|aT<|cG 1 Z<|cG 0 Z<|aA Z<|dN h λn o h=>aG (zBi Ue (Em U b d e f k i m n o) Z (jF [0,1,2,3,4,5] Z)) Z λs=>bU Z<|aB Z<|aL<|aR ?_;cases h;exact mR Z
def pF (U:Nat) (a:iH) (b:cC) (c:bO):Option (Int):=
 Option.bind (wZ U ((a.1,a.2.1,a.2.2)) ((b.1,b.2)) c) λd=>(if(!d)=true then(some (0:Int))else(Option.bind (kY U ((a.1,a.2.1,a.2.2)) ((b.1,b.2)) c) λe=>(some (e))))
theorem aeI:aU Tryz.prog 61:=Tryz.call61
theorem Lt (U:Nat) {a:iH} {i:cC} {m:bO} (b:Value)  (d:Value)  (e:Value)  (f:Value)  (j:jA)  (g:Value)  (k:lO) (r:Int) (h:pF U a i m=some r):
  aW Tryz.prog 61 #[Value.agg #[vS (a.1),b,d],Value.agg #[e,f],g] [Sl aN b a.2.1,Sl aJ d a.2.2,PF (Value.agg #[vS a.1,b,d]),Sl bR e i.1,S2 bD f j i.2,S2 bR g k m] (λx:Unit=>vU (r)) (λx l=>l) (λ_ l=>l):=by
 refine aW.of Tryz.func61 Z Tryz.ntmps61 Z λc=>?_;refine aT<|aG (aM.box (cs:=[vS (a.1),b,d]) Z Z) Z λs=>aG (aM.box (cs:=[e,f]) Z Z) Z λt=>aB Z<|aL<|aK<|aT<|cG 1 Z<|cG 0 Z<|aA Z<|dN h λn p h=>aG (zBi aeT (Oe U b d e f j g k n p) Z (jF [0,1,2,3,4,5] Z)) Z λu=>aC (jC Z) Z<|aL ?_;refine tP h Z (λ_ h=>?_) λ_ h=>?_
 ·refine aT<|aB Z<|aL<|aR<|aI ?_;cases h;exact mR Z
 refine cD<|aT<|cG 1 Z<|cG 0 Z<|aA Z<|dN h λo q h=>aG (zBi YO (FW U b d e f j g k o q) Z (jF [0,1,2,3,4,5] Z)) Z λv=>aB Z<|aL<|aR ?_;cases h;exact mR Z
def g_ (U:Nat) (a:iH) (b:cC) (c:bO) (d:Int):Option (Int):=
 Option.bind (pF U ((a.1,a.2.1,a.2.2)) ((b.1,b.2)) c) λe=>(some (jS .u32 e d))
theorem Ud:aU Tryz.prog 26:=Tryz.call26
theorem Cq (U:Nat) {a:iH} {g:cC} {j:bO} {k:Int} (b:Value)  (d:Value)  (e:Value)  (f:Value)  (m:jA)  (i:Value)  (n:lO) (r:Int) (h:g_ U a g j k=some r):
  aW Tryz.prog 26 #[Value.agg #[vS (a.1),b,d],Value.agg #[e,f],i,vU (k)] [Sl aN b a.2.1,Sl aJ d a.2.2,PF (Value.agg #[vS a.1,b,d]),Sl bR e g.1,S2 bD f m g.2,S2 bR i n j] (λx:Unit=>vU (r)) (λx l=>l) (λ_ l=>l):=by
 refine aW.of Tryz.func26 Z Tryz.ntmps26 Z λc=>?_;refine aT<|aG (aM.box (cs:=[vS (a.1),b,d]) Z Z) Z λq=>aG (aM.box (cs:=[e,f]) Z Z) Z λs=>aB Z<|aL<|aT<|cG 1 Z<|cG 0 Z<|aA Z<|dN h λo p h=>aG (zBi aeI (Lt U b d e f m i n o p) Z (jF [0,1,2,3,4,5] Z)) Z λt=>aA Z<|aC (wT Z Z) Z<|aB Z<|aL<|aR ?_;cases h;exact mR Z
def oK  (a:Bool):Option Bool:=
 some (a)
def lT (U:Nat) (a:Int):Option Bool:=
 if(1:Int)<=a then(oK  (decide (a<=(4:Int))))else(oK  (false))
theorem YI:aU Tryz.prog 45:=Tryz.call45
theorem Ih (U:Nat) {b:Int} (r:Bool) (h:lT U b=some r):
  aW Tryz.prog 45 #[vI (b)] [] (λx:Unit=>vB (r)) (λx l=>l) (λ_ l=>l):=by
 refine aW.of Tryz.func45 Z Tryz.ntmps45 Z λc=>?_;refine aT<|aB Z<|aL<|aK<|dQ (λa=>oK  a=some r) (λa d=>[(2,vB (a))]) (λa d=>[]) ?_ ?_
 ·refine aO<|aA Z<|aC (zJ Z Z) Z<|aA Z ?_;refine AP h Z (λ_ h=>?_) λ_ h=>?_
  ·refine cJ Z<|aQ Z (uE Z Z) Z<|dC Z<|aB Z<|aL ?_;exact fE (decide (b<=(4:Int))) () h SF Z
  refine aH Z<|aH Z<|dR Z<|aB Z<|aL ?_;exact fE (false) () h SF Z
 intro a d h;unfold oK at h;refine aR ?_;cases h;exact gF Z
def BB  (a:bO):Option bO:=
 some (a)
def xE (c:bO) (a:bO×Int) (b:GY->Option bO):Option bO:=
 if a.2<(c.length:Int)then(ck (0<=a.2∧a.2<(c.length:Int)) (ck ((List.length ([]:aY):Int)+((at' c a.2).length:Int)<=1099511627) (ck ((a.1.length:Int)+(List.length ([(([]:aY)++(at' c a.2))]):Int)<=1099511627) (b ((a.1++([(([]:aY)++(at' c a.2))])),(wI .i64 (a.2+(1:Int))))))))else(BB  (a.1))
def vW (U:Nat) (a:bO):Option bO:=
 bL (xE a) U (([]:bO),(0:Int))
theorem YJ:aU Tryz.prog 46:=Tryz.call46
theorem JL (U:Nat) {o:bO} (v:Value)  (z:lO) (r:bO) (h:vW U o=some r):
  aW Tryz.prog 46 #[v] [S2 bR v z o] (λx:Ik=>x.1) (λx l=>Ar eO.raw x.1 x.2::jM cK x.2 r::l) (λ_ l=>l):=by
 refine aW.of Tryz.func46 Z Tryz.ntmps46 Z λc=>?_;unfold vW at h;refine aT<|aB Z<|aL<|aT<|aB Z<|aL<|aK<|Bn (B:=Ik) (λm=>BB  m=some r) (λm g=>[(3,g.1)]) (λm g=>[Ar eO.raw g.1 g.2,jM cK g.2 m]) ?_ ?_
 ·refine aT<|aB Z<|aL<|aS<|eX (dG eO.raw) (eX (j_ cK) ?_);refine dZ (B:=Ik) (xE o) (λb a=>[(0,v),(3,a.1),(4,vI (b.2))]) (λb a=>[Ar eO.raw a.1 a.2,jM cK a.2 b.1]) (([]:bO),(0:Int)) ((iO),([]:fP)) h SF (a_.ix [1,0] Z Z) ?_;intro w b a h;refine aK<|aT<|aA Z<|aA Z<|aC (gE Z (aD.fact 0 Z) Z) Z<|cN Z<|aL ?_;refine dY h Z (λh=>?_) λh=>?_
  ·refine cD<|aK<|aS<|aO<|aA Z<|aA Z<|aA Z<|dB h λd h=>aC (b_ Z Z (aD.fact 0 Z) Z Z d) Z<|aC (bX Z (aD.fact 0 Z) Z Z d) Z<|eX (dG cK)<|dB h λp h=>aG (eG 0 dW Z Z Z (zBj (aD.fact 0 Z) d.1 d.2) Z Z Z Z p Z) Z λf=>eX (j_ cK)<|bQ (Know.one ((bB (aD.res 1 Z) dW))) λk=>eX (Mm 0 1 Z Z Z) ?_;refine aG (cE (e:=eO.raw) [f] [(0,f)] Z Z Z Z (gM (f) k) Z Z (by simp[cellsOf,eO.raw,k])) Z λy=>?_;refine bQ (eC 3 Z) λi=>bQ (eC 1 Z) λj=>dB h λn h=>eX (KR 3 1 Z Z Z) ?_;refine aG (aM.append 1 0 Z Z Z Z Z Z Z (by have q:=n;have s:=i;have t:=j;(try simp only[zAk,List.length_nil]at q s t ⊢);omega) (by have q:=n;have s:=i;have t:=j;(try simp only[zAk,List.length_nil]at q s t ⊢);omega) Z) Z λu=>?_;refine aB Z<|eM<|jE<|aO<|aA Z<|cB Z<|aB Z<|aL ?_;exact kM ((b.1++([(([]:aY)++(at' o b.2))])),(wI .i64 (b.2+(1:Int)))) (u,(a.2++[f])) h SF (a_.ix [1,2] Z Z) (aE.refl _ _)
  refine eR ?_;exact fE (b.1) (a.1,a.2) h SF Z
 intro m g h;unfold BB at h;refine aT<|aA Z<|aB Z<|aL<|aR ?_;cases h;exact iJ (g.1,g.2) Z Z (RV.tmp Z) (a_.refl _) aE.nil
def xB (U:Nat) (a:Int):Option ((Int×Int×Int×Int×Int)):=
 Option.bind (nC U (24:Int)) λb=>(some (((0:Int),(0:Int),(0:Int),(0:Int),(dD .u32 a b))))
theorem aeA:aU Tryz.prog 47:=Tryz.call47
theorem Oi (U:Nat) {a:Int} (r:(Int×Int×Int×Int×Int)) (h:xB U a=some r):
  aW Tryz.prog 47 #[vU (a)] [] (λx:Unit=>Value.agg #[vI (r.1),vI (r.2.1),vI (r.2.2.1),vI (r.2.2.2.1),vU (r.2.2.2.2)]) (λx l=>l) (λ_ l=>l):=by
 refine aW.of Tryz.func47 Z Tryz.ntmps47 Z λc=>?_;refine aT<|aG (aM.alloc (cs:=TI) Z Z) Z λe=>aL<|aT<|aA Z<|dN h λb d h=>aG (zBi PZ (DO U  b d) Z .nil) Z λf=>uU Z ?_;refine aC (TW (r:=Value.agg #[vI (0:Int),vI (0:Int),vI (0:Int),vI (0:Int),vU (dD .u32 a b)]) Z (by intro w;simp[Instr.build,Instr.fill,dH,cR,cI,dJ,dK,cS,eI])) Z ?_;refine bH 0 (vs:=[vI (0:Int),vI (0:Int),vI (0:Int),vI (0:Int),vU (dD .u32 a b)]) Z Z Z Z Z Z<|aL<|aR ?_;cases h;exact iJ () Z Z (RV.cell 0 Z Z Z Z) .nil aE.nil
def mI  (a:Bool):Option Bool:=
 some (a)
def rI (U:Nat) (a:cC) (c:Int) (d:Int):Option Bool:=
 Option.bind (iZ U ((a.1,a.2))) λe=>(if e=true then(Option.bind (lT U c) λf=>(if f=true then(Option.bind (nC U (a.2.length:Int)) λb=>(mI  (decide ((jS .u32 d b)=(0:Int)))))else(mI  (false))))else(mI  (false)))
theorem aeL:aU Tryz.prog 79:=Tryz.call79
theorem KE (U:Nat) {i:cC} {o:Int} {j:Int} (f:Value)  (g:Value)  (p:jA) (r:Bool) (h:rI U i o j=some r):
  aW Tryz.prog 79 #[Value.agg #[f,g],vI (o),vU (j)] [Sl bR f i.1,S2 bD g p i.2] (λx:Unit=>vB (r)) (λx l=>l) (λ_ l=>l):=by
 refine aW.of Tryz.func79 Z Tryz.ntmps79 Z λc=>?_;refine aT<|aG (aM.box (cs:=[f,g]) Z Z) Z λw=>aB Z<|aL<|aK<|dQ (λd=>mI  d=some r) (λd n=>[(6,vB (d))]) (λd n=>[]) ?_ ?_
 ·refine aO<|cG 0 Z<|dN h λq t h=>aG (zBi Uf (Ek U f g p q t) Z (jF [0,1] Z)) Z λy=>aA Z ?_;refine rY (by exact rfl) (by exact rfl) (λb=>?_) (λb=>?_)
  ·have h:=Jl b h;refine cJ Z<|dN h λs k h=>iP Z (zBi YI (Ih U  s k) Z .nil) Z λu=>dC Z<|aA Z ?_;refine rY (by exact rfl) (by exact rfl) (λa=>?_) (λa=>?_)
   ·have h:=Jl a h;refine cJ Z<|aQ Z (cO Z Z Z Z Z) Z<|aQ Z (dO 0 Z Z Z Z Z) Z<|aQ Z (gE Z (aD.fact 1 Z) Z) Z<|dN h λe m h=>iP Z (zBi PZ (DO U  e m) Z .nil) Z λv=>aQ Z (wT Z Z) Z<|aQ Z (FJ Z Z) Z<|dC Z<|aB Z<|aL ?_;exact bZ (decide ((jS .u32 j e)=(0:Int))) () h SF .nil (aE.refl _ _)
   have h:=FZ a h;refine aH Z<|aH Z<|aH Z<|aH Z<|aH Z<|aH Z<|aH Z<|dR Z<|aB Z<|aL ?_;exact bZ (false) () h SF .nil (aE.refl _ _)
  have h:=FZ b h;refine aH Z<|aH Z<|dR Z<|aA Z<|aH Z<|aH Z<|aH Z<|aH Z<|aH Z<|aH Z<|aH Z<|dR Z<|aB Z<|aL ?_;exact bZ (false) () h SF .nil (aE.refl _ _)
 intro d n h;unfold mI at h;refine aR ?_;cases h;exact gF Z
def Di  (a:Unit):Option (Int):=
 some (0:Int)
def oJ (U:Nat) (c:Int) (a:Int) (b:(Int)->Option (Int)):Option (Int):=
 if a<(32:Int)then(Option.bind (pW U c a) λd=>(if d=true then(ck (0<=(wI .u64 a)) (some (AS .u32 (1:Int) (wI .u64 a))))else(b (wI .i64 (a+(1:Int))))))else(Di  (()))
def tA (U:Nat) (a:Int):Option (Int):=
 bL (oJ U a) U (0:Int)
theorem YN:aU Tryz.prog 80:=Tryz.call80
theorem Ig (U:Nat) {d:Int} (r:Int) (h:tA U d=some r):
  aW Tryz.prog 80 #[vU (d)] [] (λx:Unit=>vU (r)) (λx l=>l) (λ_ l=>l):=by
 refine aW.of Tryz.func80 Z Tryz.ntmps80 Z λc=>?_;unfold tA at h;refine aT<|aB Z<|aL<|aK<|dQ (λa=>Di  a=some r) (λa g=>[]) (λa g=>[]) ?_ ?_
 ·refine aT<|aB Z<|aL<|aS<|dZ (oJ U d) (λb i=>[(0,vU (d)),(3,vI (b))]) (λb i=>[]) (0:Int) () h SF (a_.refl _) ?_;intro m b i h;refine aK<|aT<|aA Z<|cN Z<|aL ?_;refine dY h Z (λh=>?_) λh=>?_
  ·refine cD<|aK<|aS<|aT<|aA Z<|aA Z<|dN h λj f h=>aG (zBi Ke (zO U  j f) Z .nil) Z λk=>aL ?_;refine tP h Z (λ_ h=>?_) λ_ h=>?_
   ·refine aT<|aA Z<|aC (EX Z Z Z) Z<|dB h λe h=>aC (HQ Z Z e) Z<|aB Z<|aL<|aR<|bE<|aI<|aI<|bE<|aI ?_;cases h;exact gF Z
   refine cU<|jE<|aO<|aA Z<|cB Z<|aB Z<|aL ?_;exact uG (wI .i64 (b+(1:Int))) () h SF Z
  refine eR ?_;exact fE () (()) h SF Z
 intro a g h;unfold Di at h;refine aT<|aB Z<|aL<|aR ?_;cases h;exact gF Z
def yI  (a:Int):Option (Int):=
 some (a)
def sS (c:eV) (b:fO->Option (Int)) (a:Int):Option (Int):=
 b (a,(wI .i64 (c.2+(1:Int))))
def yJ (a:eV) (b:fO->Option (Int)) (c:Bool):Option (Int):=
 if c=true then(ck (0<=(wI .u64 a.2)) (sS a b (I_ .u32 a.1 (AS .u32 (1:Int) (wI .u64 a.2)))))else(sS a b (a.1))
def mP (U:Nat) (c:cC) (g:Int) (a:eV) (b:fO->Option (Int)):Option (Int):=
 if a.2<(c.2.length:Int)then(Option.bind (pW U g a.2) λd=>(if d=true then(Option.bind (oA U ((c.1,c.2)) a.1) λe=>(Option.bind (pW U e a.2) λf=>(yJ a b ((!f)))))else(yJ a b (false))))else(yI  (a.1))
def rH (U:Nat) (a:cC) (b:Int):Option (Int):=
 bL (mP U a b) U ((0:Int),(0:Int))
theorem aeM:aU Tryz.prog 81:=Tryz.call81
theorem NC (U:Nat) {k:cC} {f:Int} (g:Value)  (i:Value)  (B:jA) (r:Int) (h:rH U k f=some r):
  aW Tryz.prog 81 #[Value.agg #[g,i],vU (f)] [Sl bR g k.1,S2 bD i B k.2] (λx:Unit=>vU (r)) (λx l=>l) (λ_ l=>l):=by
 refine aW.of Tryz.func81 Z Tryz.ntmps81 Z λc=>?_;unfold rH at h;refine aT<|aG (aM.box (cs:=[g,i]) Z Z) Z λj=>aB Z<|aL<|aT<|aB Z<|aL<|aK<|dQ (λm=>yI  m=some r) (λm z=>[(5,vU (m))]) (λm z=>[]) ?_ ?_
 ·refine aT<|aB Z<|aL<|aS<|dZ (mP U k f) (λa A=>[(1,vU (f)),(2,vP j),(5,vU (a.1)),(6,vI (a.2))]) (λa A=>[bS j [g,i] 29]) ((0:Int),(0:Int)) () h SF (a_.refl _) ?_;intro p a A h;refine aK<|aT<|aA Z<|bN Z<|cT 0 Z<|aC (gE Z (aD.fact 1 Z) Z) Z<|cN Z<|aL ?_;refine dY h Z (λh=>?_) λh=>?_
  ·refine cD<|aK<|dQ (λb=>sS a (bL (mP U k f) p) b=some r) (λb n=>[(1,vU (f)),(2,vP j),(5,vU (b)),(6,vI (a.2))]) (λb n=>[bS j [g,i] 29]) ?_ ?_
   ·refine aS<|aK<|dQ (λd=>yJ a (bL (mP U k f) p) d=some r) (λd o=>[(1,vU (f)),(2,vP j),(5,vU (a.1)),(6,vI (a.2)),(24,vB (d))]) (λd o=>[bS j [g,i] 29]) ?_ ?_
    ·refine aO<|aA Z<|aA Z<|dN h λt v h=>aG (zBi Ke (zO U  t v) Z .nil) Z λC=>aA Z ?_;refine rY (by exact rfl) (by exact rfl) (λe=>?_) (λe=>?_)
     ·have h:=Jl e h;refine aQ Z (eP 0 Z Z Z Z) Z<|cJ Z<|dN h λu w h=>iP Z (zBi aeJ (II U g i B u w) Z (jF [0,1] Z)) Z λD=>cJ Z<|dN h λq y h=>iP Z (zBi Ke (zO U  q y) Z .nil) Z λE=>aQ Z (jC Z) Z<|dC Z<|aL ?_;exact fE ((!q)) () h SF Z
     have h:=FZ e h;refine aH Z<|aH Z<|aH Z<|aH Z<|aH Z<|aH Z<|dR Z<|aL ?_;exact fE (false) () h SF Z
    intro d o h;refine tP h Z (λ_ h=>?_) λ_ h=>?_
    ·refine aO<|aA Z<|aA Z<|aC (EX Z Z Z) Z<|dB h λs h=>aC (HQ Z Z s) Z<|aC (PG Z Z) Z<|aB Z<|eM<|jE ?_;exact fE (I_ .u32 a.1 (AS .u32 (1:Int) (wI .u64 a.2))) () h SF Z
    refine cU<|jE ?_;exact fE (a.1) () h SF Z
   intro b n h;unfold sS at h;refine aO<|aA Z<|cB Z<|aB Z<|aL ?_;exact uG (b,(wI .i64 (a.2+(1:Int)))) () h SF Z
  refine eR ?_;exact bZ (a.1) () h SF .nil (aE.refl _ _)
 intro m z h;unfold yI at h;refine aT<|aA Z<|aB Z<|aL<|aR ?_;cases h;exact gF Z
def rR (U:Nat) (e:cC) (b:Int) (f:Int) (a:Int):Option (Int):=
 if b=(1:Int)then(Option.bind (tA U a) λc=>(some (c)))else(if b=(2:Int)then(Option.bind (rH U ((e.1,e.2)) a) λd=>(some (d)))else(if b=(4:Int)then(some (f))else(some (a))))
def rQ (U:Nat) (c:cC) (d:Int) (a:Int) (e:Int) (f:Bool):Option (Int):=
 if f=true then(some (0:Int))else(if(dD .u32 e a)=(0:Int)then(Option.bind (tA U a) λb=>(rR U c d a (b)))else(rR U c d a (dD .u32 e a)))
def sP (U:Nat) (a:cC) (c:Int) (b:Int) (e:Int):Option (Int):=
 Option.bind (rI U ((a.1,a.2)) c b) λd=>(if(!d)=true then(rQ U a c b e (true))else(rQ U a c b e (decide (b=(0:Int)))))
theorem aeB:aU Tryz.prog 48:=Tryz.call48
theorem Lu (U:Nat) {j:cC} {f:Int} {b:Int} {k:Int} (d:Value)  (e:Value)  (w:jA) (r:Int) (h:sP U j f b k=some r):
  aW Tryz.prog 48 #[Value.agg #[d,e],vI (f),vU (b),vU (k)] [Sl bR d j.1,S2 bD e w j.2] (λx:Unit=>vU (r)) (λx l=>l) (λ_ l=>l):=by
 refine aW.of Tryz.func48 Z Tryz.ntmps48 Z λc=>?_;refine aT<|aG (aM.box (cs:=[d,e]) Z Z) Z λn=>aB Z<|aL<|aK<|aK<|dQ (λg=>rQ U j f b k g=some r) (λg y=>[(1,vI (f)),(2,vU (b)),(3,vU (k)),(4,vP n),(18,vB (g))]) (λg y=>[bS n [d,e] 29]) ?_ ?_
 ·refine aO<|cG 0 Z<|aA Z<|aA Z<|dN h λq v h=>aG (zBi aeL (KE U d e w q v) Z (jF [0,1] Z)) Z λD=>aC (jC Z) Z<|aA Z ?_;refine rY (by exact rfl) (by exact rfl) (λa=>?_) (λa=>?_)
  ·have h:=Jl a h;refine aH Z<|aH Z<|dC Z<|aL ?_;exact fE (true) () h SF Z
  have h:=FZ a h;refine cJ Z<|aQ Z (FJ Z Z) Z<|dR Z<|aL ?_;exact fE (decide (b=(0:Int))) () h SF Z
 intro g y h;refine tP h Z (λ_ h=>?_) λ_ h=>?_
 ·refine aT<|aB Z<|aL<|aR<|aI ?_;cases h;exact mR Z
 refine cD<|aT<|aA Z<|aA Z<|uU Z<|aB Z<|aL<|aK<|dQ (λi=>rR U j f b i=some r) (λi z=>[(1,vI (f)),(2,vU (b)),(4,vP n),(9,vU (i))]) (λi z=>[bS n [d,e] 29]) ?_ ?_
 ·refine aT<|aA Z<|bU Z<|aL ?_;refine dY h Z (λh=>?_) λh=>?_
  ·refine aO<|aA Z<|dN h λm u h=>aG (zBi YN (Ig U  m u) Z .nil) Z λC=>aB Z<|aL ?_;exact fE (m) () h SF Z
  refine cD ?_;exact fE (dD .u32 k b) () h SF Z
 intro i z h;refine aK<|aT<|aA Z<|aL<|aS<|aT<|bU Z<|aB Z<|aL ?_;refine dY h Z (λh=>?_) λh=>?_
 ·refine aT<|aA Z<|dN h λo s h=>aG (zBi YN (Ig U  o s) Z .nil) Z λA=>aB Z<|aL<|aR<|bE<|aI ?_;cases h;exact mR Z
 refine aT<|bU Z<|aB Z<|aL ?_;refine dY h Z (λh=>?_) λh=>?_
 ·refine aT<|cG 0 Z<|aA Z<|dN h λp t h=>aG (zBi aeM (NC U d e w p t) Z (jF [0,1] Z)) Z λB=>aB Z<|aL<|aR<|bE<|aI ?_;cases h;exact mR Z
 refine aT<|bU Z<|aB Z<|aL ?_;refine dY h Z (λh=>?_) λh=>?_
 ·refine aT<|aA Z<|aB Z<|aL<|aR<|bE<|aI ?_;cases h;exact mR Z
 refine cU<|jE<|aT<|aA Z<|aB Z<|aL<|aR ?_;cases h;exact mR Z
def AA (c:Int) (a:eV) (b:Bool):Option (Int):=
 if b=true then(some (-1:Int))else(some (min (max c a.1) a.2))
def wY (U:Nat) (a:iH) (f:cC) (g:Int) (b:Int) (d:Int):Option (Int):=
 Option.bind (lS U ((a.1,a.2.1,a.2.2)) ((f.1,f.2)) g b) λc=>(ck (0<=b∧b<(a.2.1.length:Int)) (if((at' a.2.1 b).2.1)=(3:Int)then(Option.bind (qE U d c.1 c.2) λe=>(AA d c ((!e))))else(AA d c (false))))
theorem abH:aU Tryz.prog 125:=Tryz.call125
theorem Od (U:Nat) {a:iH} {n:cC} {q:Int} {s:Int} {i:Int} (f:Value)  (g:Value)  (k:Value)  (m:Value)  (t:jA) (r:Int) (h:wY U a n q s i=some r):
  aW Tryz.prog 125 #[Value.agg #[vS (a.1),f,g],Value.agg #[k,m],vI (q),vI (s),vI (i)] [Sl aN f a.2.1,Sl aJ g a.2.2,PF (Value.agg #[vS a.1,f,g]),Sl bR k n.1,S2 bD m t n.2] (λx:Unit=>vI (r)) (λx l=>l) (λ_ l=>l):=by
 refine aW.of Tryz.func125 Z Tryz.ntmps125 Z λc=>?_;refine aT<|aG (aM.box (cs:=[vS (a.1),f,g]) Z Z) Z λw=>aG (aM.box (cs:=[k,m]) Z Z) Z λy=>aB Z<|aL<|aT<|cG 1 Z<|cG 0 Z<|aA Z<|aA Z<|dN h λj u h=>aG (zBi Ug (FC U f g k m t j u) Z (jF [0,1,2,3,4] Z)) Z λz=>aA Z<|eS Z<|eS Z<|aB Z<|aB Z<|aL<|aK<|aK<|dQ (λb=>AA i j b=some r) (λb p=>[(4,vI (i)),(11,vI (j.1)),(12,vI (j.2)),(34,vB (b))]) (λb p=>[]) ?_ ?_
 ·refine aO<|bN Z<|cT 1 Z<|aA Z<|dB h λd h=>aC (aZ Z Z (aD.fact 0 Z) Z Z d) Z<|aC (dX Z Z Z Z Z) Z<|aC (fD Z (aD.fact 0 Z) Z Z Z lD d) Z<|bU Z<|aA Z ?_;refine AP h Z (λ_ h=>?_) λ_ h=>?_
  ·refine cJ Z<|cJ Z<|cJ Z<|dN h λe o h=>iP Z (zBi Iu (zG U  e o) Z .nil) Z λv=>aQ Z (jC Z) Z<|dC Z<|aL ?_;exact bZ ((!e)) () h SF .nil (aE.refl _ _)
  refine aH Z<|aH Z<|aH Z<|aH Z<|aH Z<|dR Z<|aL ?_;exact bZ (false) () h SF .nil (aE.refl _ _)
 intro b p h;refine tP h Z (λ_ h=>?_) λ_ h=>?_
 ·refine aT<|aB Z<|aL<|aR<|aI ?_;cases h;exact gF Z
 refine cD<|aT<|aA Z<|aA Z<|aC (FL Z Z) Z<|aA Z<|aC (Mo Z Z) Z<|aB Z<|aL<|aR ?_;cases h;exact gF Z
def BJ  (a:aY):Option aY:=
 some (a)
def xJ (U:Nat) (b:iH) (e:cC) (i:bO) (h:Int) (c:Int) (a:rU) (d:xS->Option aY):Option aY:=
 if a.1<(((at' b.2.2 c).2.2.2).length:Int)then(ck (0<=a.1∧a.1<(((at' b.2.2 c).2.2.2).length:Int)) (ck (0<=a.1∧a.1<(((at' b.2.2 c).2.2.2).length:Int)) (ck (0<=a.1∧a.1<(((at' b.2.2 c).2.2.2).length:Int)) (Option.bind (eZ U ((e.1,e.2)) i h (-1:Int) ((at' ((at' b.2.2 c).2.2.2) a.1).2.2) (0:Int)) λf=>(Option.bind (wY U ((b.1,b.2.1,b.2.2)) ((e.1,e.2)) h ((at' ((at' b.2.2 c).2.2.2) a.1).1) f) λg=>(ck (0<=((at' ((at' b.2.2 c).2.2.2) a.1).1)∧((at' ((at' b.2.2 c).2.2.2) a.1).1)<(a.2.length:Int)) (d ((wI .i64 (a.1+(1:Int))),(List.set a.2 (Int.toNat ((at' ((at' b.2.2 c).2.2.2) a.1).1)) g)))))))))else(BJ  (a.2))
def An (U:Nat) (b:iH) (d:cC) (c:bO) (a:Int):Option aY:=
 ck (0<=a∧a<(c.length:Int)) (ck ((List.length ([]:aY):Int)+((at' c a).length:Int)<=1099511627) (Option.bind (nD U ((b.1,b.2.1,b.2.2)) ((d.1,d.2)) c a) λe=>(ck (0<=e∧e<(b.2.2.length:Int)) (bL (xJ U b d c a e) U ((0:Int),(([]:aY)++(at' c a)))))))
theorem aeN:aU Tryz.prog 83:=Tryz.call83
theorem QW (U:Nat) {e:iH} {A:cC} {B:bO} {t:Int} (i:Value)  (j:Value)  (k:Value)  (m:Value)  (C:jA)  (w:Value)  (I:lO) (r:aY) (h:An U e A B t=some r):
  aW Tryz.prog 83 #[Value.agg #[vS (e.1),i,j],Value.agg #[k,m],w,vI (t)] [Sl aN i e.2.1,Sl aJ j e.2.2,PF (Value.agg #[vS e.1,i,j]),Sl bR k A.1,S2 bD m C A.2,S2 bR w I B] (λx:Value=>x) (λx l=>Ar cK x r::l) (λ_ l=>l):=by
 refine aW.of Tryz.func83 Z Tryz.ntmps83 Z λc=>?_;refine aT<|aG (aM.box (cs:=[vS (e.1),i,j]) Z Z) Z λJ=>aG (aM.box (cs:=[k,m]) Z Z) Z λK=>aB Z<|aL<|aT<|aA Z<|aA Z<|dB h λy h=>aC (b_ Z Z (aD.fact 5 Z) Z Z y) Z<|aC (bX Z (aD.fact 5 Z) Z Z y) Z<|eX (dG cK)<|dB h λL h=>aG (eG 0 dW Z Z Z (zBj (aD.fact 5 Z) y.1 y.2) Z Z Z Z L Z) Z λv=>aB Z<|aL<|aK ?_;refine JR.start [0,1,0,0,0,0,60,127,255,511,1023] 7 mixedOrders (by decide +kernel) ?_;refine zBl (by exact rfl) ?_;refine cP Z<|fG 2 Z<|gN 2 Z<|gN 1 Z<|aX Z<|aX Z<|dN h λu N h=>zBk Z Z Z (zBi Vk (If U i j k m C w I u N) Z (jF [0,1,2,3,4,5] Z)) Z (λO=>(oU [([2],[])] Z)) λO=>bK 7 Z Z<|dB h λb h=>aC (aZ Z Z (aD.fact 1 Z) Z Z b) Z<|aC (dX Z Z Z Z Z) Z<|aC (fD Z (aD.fact 1 Z) Z Z Z tJ b) Z<|aB Z<|aL<|aK<|dQ (λd=>BJ  d=some r) (λd n=>[(9,v)]) (λd n=>[Ar cK v d]) ?_ ?_
 ·refine aT<|aB Z<|aL<|aS<|dZ (xJ U e A B t u) (λa o=>[(2,w),(3,vI (t)),(4,vP J),(5,vP K),(9,v),(10,(at' e.2.2 u).2.2.1),(11,vI (a.1))]) (λa o=>[Ar cK v a.2,bS K [k,m] 29,bS J [vS (e.1),i,j] 36]) ((0:Int),(([]:aY)++(at' B t))) () h SF (a_.refl _) ?_;intro M a o h;refine aK<|aT<|aA Z<|aA Z<|aC (fV Z (jN (aD.fact 1 Z) cH b.1 b.2) Z) Z<|cN Z<|aL ?_;refine dY h Z (λh=>?_) λh=>?_
  ·refine cD<|aK<|aS ?_;refine JR.start [0,0,0,6,14,30,0,0,0,0,0,1536,3584,7680,0,0,0,0,0,393216,917504,1966080,4177920,8388544,16777215,33554431] 24 mixedOrders (by decide +kernel) ?_;refine zBl (by exact rfl) ?_;refine aX Z<|aX Z<|aX Z<|dB h λp h=>bG Z .nil (iI 1 Z) (aZ Z Z (jN (aD.fact 0 Z) cH b.1 b.2) Z Z p) aP.z<|fW Z (dX Z Z Z Z Z)<|bG Z .nil (iI 1 Z) (fD Z (jN (aD.fact 0 Z) cH b.1 b.2) Z Z Z FI p) aP.z<|gN 2 Z<|gN 1 Z<|aX Z<|aX Z<|aX Z<|dB h λq h=>bG Z .nil (iI 1 Z) (aZ Z Z (jN (aD.fact 0 Z) cH b.1 b.2) Z Z q) aP.z<|fW Z (dX Z Z Z Z Z)<|bG Z .nil (iI 1 Z) (fD Z (jN (aD.fact 0 Z) cH b.1 b.2) Z Z Z FI q) aP.z<|gN 1 Z<|aX Z<|aX Z<|aX Z<|aX Z<|dB h λf h=>bG Z .nil (iI 1 Z) (aZ Z Z (jN (aD.fact 0 Z) cH b.1 b.2) Z Z f) aP.z<|fW Z (dX Z Z Z Z Z)<|bG Z .nil (iI 1 Z) (fD Z (jN (aD.fact 0 Z) cH b.1 b.2) Z Z Z Ll f) aP.z<|dN h λD E h=>zBk Z Z Z (zBi CF (Nz U k m C w I ((at' ((at' e.2.2 u).2.2.2) a.1).2.1) D E) Z (aE.cons (aD.fact 3 Z) (aE.cons (aD.fact 4 Z) (aE.cons (aD.fact 5 Z) (aE.cons (jN (jN (aD.fact 1 Z) cH b.1 b.2) Cg f.1 f.2) .nil))))) Z (λG=>(oU [([],[1]),([],[1]),([1],[]),([2],[]),([],[1]),([],[1])] Z)) λG=>dN h λg F h=>zBk Z Z Z (zBi abH (Od U i j k m C g F) Z (jF [0,1,2,3,4] Z)) Z (λH=>(oU [([],[1]),([],[1])] Z)) λH=>bK 24 Z Z<|dB h λs h=>aC (aZ Z Z (bB (aD.res 0 Z) dW) Z Z s) Z<|zS 0 g s Z Z Z Z Z Z Z<|eM<|jE<|aO<|aA Z<|cB Z<|aB Z<|aL ?_;exact uG ((wI .i64 (a.1+(1:Int))),(List.set a.2 (Int.toNat ((at' ((at' e.2.2 u).2.2.2) a.1).1)) g)) () h SF Z
  refine eR ?_;exact bZ (a.2) () h SF (a_.ix [0] Z Z) (aE.refl _ _)
 intro d n h;unfold BJ at h;refine aT<|aA Z<|aB Z<|aL<|aR ?_;cases h;exact iJ (v) Z Z (RV.tmp Z) (a_.refl _) aE.nil
def BI  (a:bO):Option GY:=
 some (a,(0:Int))
def xI (b:Ce) (a:(Int×bO)->Option GY) (c:bO):Option GY:=
 a ((wI .i64 (b.1+(1:Int))),c)
def tD (U:Nat) (c:iH) (f:cC) (g:bO) (h:Int) (a:Ce) (b:(Int×bO)->Option GY):Option GY:=
 if a.1<(g.length:Int)then(Option.bind (pW U h a.1) λd=>(if d=true then(Option.bind (An U ((c.1,c.2.1,c.2.2)) ((f.1,f.2)) g a.1) λe=>(ck (0<=a.1∧a.1<(a.2.length:Int)) (xI a b (List.set a.2 (Int.toNat a.1) e))))else(xI a b (a.2))))else(BI  (a.2))
def BH (U:Nat) (d:iH) (e:cC) (b:bO) (f:Int) (c:Bool):Option GY:=
 if c=true then(some (([]:bO),(11:Int)))else(Option.bind (vW U b) λa=>(bL (tD U d e b f) U ((0:Int),a)))
def Am (U:Nat) (a:iH) (b:cC) (c:bO) (d:Int):Option GY:=
 Option.bind (kL U ((a.1,a.2.1,a.2.2)) ((b.1,b.2)) c) λf=>(if f≠(0:Int)then(some (([]:bO),f))else(if d=(0:Int)then(BH U a b c d (true))else(Option.bind (kY U ((a.1,a.2.1,a.2.2)) ((b.1,b.2)) c) λe=>(BH U a b c d (decide ((jS .u32 d e)≠(0:Int)))))))
theorem aeC:aU Tryz.prog 49:=Tryz.call49
theorem QV (U:Nat) {f:iH} {z:cC} {D:bO} {s:Int} (p:Value)  (q:Value)  (t:Value)  (u:Value)  (I:jA)  (v:Value)  (H:lO) (r:bO×Int) (h:Am U f z D s=some r):
  aW Tryz.prog 49 #[Value.agg #[vS (f.1),p,q],Value.agg #[t,u],v,vU (s)] [Sl aN p f.2.1,Sl aJ q f.2.2,PF (Value.agg #[vS f.1,p,q]),Sl bR t z.1,S2 bD u I z.2,S2 bR v H D] (λx:Ik=>Value.tuple #[x.1,vI (r.2)]) (λx l=>Ar eO.raw x.1 x.2::jM cK x.2 r.1::l) (λ_ l=>l):=by
 refine aW.of Tryz.func49 Z Tryz.ntmps49 Z λc=>?_;refine aT<|aG (aM.box (cs:=[vS (f.1),p,q]) Z Z) Z λw=>aG (aM.box (cs:=[t,u]) Z Z) Z λy=>aB Z<|aB Z<|aL<|aK<|aT<|cG 1 Z<|cG 0 Z<|aA Z<|dN h λR S h=>aG (zBi Ue (Em U p q t u I v H R S) Z (jF [0,1,2,3,4,5] Z)) Z λW=>aB Z<|aL<|aT<|aA Z<|kH Z<|aL ?_;refine dY h Z (λh=>?_) λh=>?_
 ·refine aT<|aA Z<|aB Z<|aB Z<|aL<|aR<|aI<|eX (dG eO.raw) (eX (j_ cK) ?_);cases h;exact eW ((iO),([]:fP)) Z Z (RV.tmp Z) (RV.tmp Z) (a_.ix [1,0] Z Z) aE.nil
 refine cD<|aK<|aK<|dQ (λA=>BH U f z D s A=some r) (λA Q=>[(2,v),(3,vU (s)),(4,vP w),(5,vP y),(30,vB (A))]) (λA Q=>[bS y [t,u] 29,bS w [vS (f.1),p,q] 36]) ?_ ?_
 ·refine aO<|aA Z<|bU Z<|aA Z ?_;refine AP h Z (λ_ h=>?_) λ_ h=>?_
  ·refine aH Z<|aH Z<|aH Z<|aH Z<|aH Z<|aH Z<|aH Z<|dC Z<|aL ?_;exact fE (true) () h SF Z
  refine cJ Z<|aQ Z (eP 1 Z Z Z Z) Z<|aQ Z (eP 0 Z Z Z Z) Z<|cJ Z<|dN h λG O h=>iP Z (zBi YO (FW U p q t u I v H G O) Z (jF [0,1,2,3,4,5] Z)) Z λV=>aQ Z (wT Z Z) Z<|aQ Z (CW Z Z) Z<|dR Z<|aL ?_;exact fE (decide ((jS .u32 s G)≠(0:Int))) () h SF Z
 intro A Q h;refine tP h Z (λ_ h=>?_) λ_ h=>?_
 ·refine aT<|aB Z<|aB Z<|aL<|aR<|aI<|eX (dG eO.raw) (eX (j_ cK) ?_);cases h;exact eW ((iO),([]:fP)) Z Z (RV.tmp Z) (RV.tmp Z) (a_.ix [1,0] Z Z) aE.nil
 refine cD<|aT<|aA Z<|dN h λE L h=>aG (zBi YJ (JL U v H E L) Z (jF [5] Z)) Z λb=>aB Z<|aL<|aK<|Bn (B:=fP) (λg=>BI  g=some r) (λg m=>[(11,b.1)]) (λg m=>[Ar eO.raw b.1 m,jM cK m g]) ?_ ?_
 ·refine aT<|aB Z<|aL<|aS<|dZ (B:=fP) (tD U f z D s) (λa d=>[(2,v),(3,vU (s)),(4,vP w),(5,vP y),(11,b.1),(12,vI (a.1))]) (λa d=>[Ar eO.raw b.1 d,jM cK d a.2,bS y [t,u] 29,bS w [vS (f.1),p,q] 36]) ((0:Int),E) (b.2) h SF (a_.refl _) ?_;intro J a d h;refine aK<|aT<|aA Z<|aA Z<|aC (gE Z (aD.fact 5 Z) Z) Z<|cN Z<|aL ?_;refine dY h Z (λh=>?_) λh=>?_
  ·refine cD<|aK<|Bn (B:=fP) (λe=>xI a (bL (tD U f z D s) J) e=some r) (λe n=>[(2,v),(3,vU (s)),(4,vP w),(5,vP y),(11,b.1),(12,vI (a.1))]) (λe n=>[Ar eO.raw b.1 n,jM cK n e,bS y [t,u] 29,bS w [vS (f.1),p,q] 36]) ?_ ?_
   ·refine aS<|aT<|aA Z<|aA Z<|dN h λK M h=>aG (zBi Ke (zO U  K M) Z .nil) Z λT=>aL ?_;refine tP h Z (λ_ h=>?_) λ_ h=>?_
    ·refine aO<|aA Z<|aA Z<|cG 3 Z<|cG 2 Z<|aA Z<|aA Z<|dN h λF N h=>aG (zBi aeN (QW U p q t u I v H F N) Z (jF [0,1,2,3,4,5] Z)) Z λP=>dB h λo h=>aC (b_ Z Z (bF (i:=1) (j:=2) Z Z dW) Z Z o) Z<|bQ (Know.one ((bB (aD.res 0 Z) dW))) λC=>eX (yV (k:=a.1) 2 0 Z Z Z o) ?_;refine mK 0 1 ⟨o.1,by first|exact o.2|simpa using o.2⟩ Z Z Z Z Z (by simp) C Z ?_;refine eM<|jE ?_;exact fE (List.set a.2 (Int.toNat a.1) F) (List.set d (Int.toNat a.1) P) h SF Z
    refine cU<|jE ?_;exact fE (a.2) (d) h SF Z
   intro e n h;unfold xI at h;refine aO<|aA Z<|cB Z<|aB Z<|aL ?_;exact uG ((wI .i64 (a.1+(1:Int))),e) (n) h SF Z
  refine eR ?_;exact bZ (a.2) (d) h SF (a_.ix [0,1] Z Z) (aE.refl _ _)
 intro g m h;unfold BI at h;refine aT<|aA Z<|aB Z<|aB Z<|aL<|aR ?_;cases h;exact eW (b.1,m) Z Z (RV.tmp Z) (RV.tmp Z) (a_.refl _) aE.nil
def oL  (a:Bool):Option Bool:=
 some (a)
def rS (U:Nat) (a:AN) (c:Bool):Option Bool:=
 if c=true then(some (false))else(if a.1<=(4096:Int)then(if a.1<=a.2.1 then(if a.2.1<=(wI .i64 ((24:Int)*a.1))then(Option.bind (nC U (24:Int)) λb=>(oL  (decide ((jS .u32 a.2.2.2.2 b)=(0:Int)))))else(oL  (false)))else(oL  (false)))else(oL  (false)))
def xC (U:Nat) (a:AN):Option Bool:=
 if a.2.2.1<(0:Int)then(rS U a (true))else(if a.2.2.2.1<a.2.2.1 then(rS U a (true))else(if(1:Int)<(wI .i64 (a.2.2.2.1 - a.2.2.1))then(rS U a (true))else(rS U a (decide (a.1<a.2.2.2.1)))))
theorem aeO:aU Tryz.prog 84:=Tryz.call84
theorem Oj (U:Nat) {a:AN} (r:Bool) (h:xC U a=some r):
  aW Tryz.prog 84 #[Value.agg #[vI (a.1),vI (a.2.1),vI (a.2.2.1),vI (a.2.2.2.1),vU (a.2.2.2.2)]] [] (λx:Unit=>vB (r)) (λx l=>l) (λ_ l=>l):=by
 refine aW.of Tryz.func84 Z Tryz.ntmps84 Z λc=>?_;refine aT<|aG (aM.box (cs:=[vI (a.1),vI (a.2.1),vI (a.2.2.1),vI (a.2.2.2.1),vU (a.2.2.2.2)]) Z Z) Z λm=>aB Z<|aL<|aK<|aK<|dQ (λf=>rS U a f=some r) (λf n=>[(1,vP m),(27,vB (f))]) (λf n=>[bS m [vI (a.1),vI (a.2.1),vI (a.2.2.1),vI (a.2.2.2.1),vU (a.2.2.2.2)] 53]) ?_ ?_
 ·refine aO<|bN Z<|cT 0 Z<|cN Z<|aA Z ?_;refine AP h Z (λ_ h=>?_) λ_ h=>?_
  ·refine aH Z<|aH Z<|aH Z<|aH Z<|aH Z<|dC Z<|aA Z<|aH Z<|aH Z<|aH Z<|aH Z<|aH Z<|aH Z<|dC Z<|aA Z<|aH Z<|aH Z<|aH Z<|aH Z<|aH Z<|dC Z<|aL ?_;exact fE (true) () h SF Z
  refine aQ Z (cO Z Z Z Z Z) Z<|aQ Z (dO 0 Z Z Z Z Z) Z<|aQ Z (cO Z Z Z Z Z) Z<|aQ Z (dO 0 Z Z Z Z Z) Z<|aQ Z (tM Z Z) Z<|dR Z<|aA Z ?_;refine AP h Z (λ_ h=>?_) λ_ h=>?_
  ·refine aH Z<|aH Z<|aH Z<|aH Z<|aH Z<|aH Z<|dC Z<|aA Z<|aH Z<|aH Z<|aH Z<|aH Z<|aH Z<|dC Z<|aL ?_;exact fE (true) () h SF Z
  refine aQ Z (cO Z Z Z Z Z) Z<|aQ Z (dO 0 Z Z Z Z Z) Z<|aQ Z (cO Z Z Z Z Z) Z<|aQ Z (dO 0 Z Z Z Z Z) Z<|aQ Z (mM Z Z) Z<|aQ Z (tM Z Z) Z<|dR Z<|aA Z ?_;refine AP h Z (λ_ h=>?_) λ_ h=>?_
  ·refine aH Z<|aH Z<|aH Z<|aH Z<|aH Z<|dC Z<|aL ?_;exact fE (true) () h SF Z
  refine aQ Z (cO Z Z Z Z Z) Z<|aQ Z (dO 0 Z Z Z Z Z) Z<|aQ Z (cO Z Z Z Z Z) Z<|aQ Z (dO 0 Z Z Z Z Z) Z<|aQ Z (tM Z Z) Z<|dR Z<|aL ?_;exact fE (decide (a.1<a.2.2.2.1)) () h SF Z
 intro f n h;refine tP h Z (λ_ h=>?_) λ_ h=>?_
 ·refine aT<|aB Z<|aL<|aR<|aI ?_;cases h;exact mR Z
 refine cD<|aK<|dQ (λg=>oL  g=some r) (λg o=>[(2,vB (g))]) (λg o=>[]) ?_ ?_
 ·refine JR.start [0,1,3,7,15,31,15,79,255,511,1023,2047,4095,2047,10239,26623,65535,131071,262143,524287,1048575,524287,4194303,8388607,16777215,33554431] 22 mixedOrders (by decide +kernel) ?_;refine zBl (by exact rfl) ?_;refine cP Z<|fG 0 Z<|fW Z (uE Z Z)<|aX Z ?_;refine Bb (by exact rfl) (by exact rfl) (by exact rfl) (λe=>?_) (λe=>?_)
  ·have h:=Jl e h;refine eN Z .nil .nil (cO Z Z Z Z Z) aP.z<|eN Z (a_.cons 0 Z .nil) .nil (dO 0 Z Z Z Z Z) aP.z<|eN Z .nil .nil (cO Z Z Z Z Z) aP.z<|eN Z (a_.cons 0 Z .nil) .nil (dO 0 Z Z Z Z Z) aP.z<|eN Z .nil .nil (uE Z Z) aP.z<|fW Z (EZ Z Z)<|aX Z ?_;refine Bb (by exact rfl) (by exact rfl) (by exact rfl) (λb=>?_) (λb=>?_)
   ·have h:=Jl b h;refine eN Z .nil .nil (cO Z Z Z Z Z) aP.z<|eN Z (a_.cons 0 Z .nil) .nil (dO 0 Z Z Z Z Z) aP.z<|eN Z .nil .nil (cO Z Z Z Z Z) aP.z<|eN Z (a_.cons 0 Z .nil) .nil (dO 0 Z Z Z Z Z) aP.z<|eN Z .nil .nil (zT Z Z) aP.z<|eN Z .nil .nil (uE Z Z) aP.z<|fW Z (EZ Z Z)<|aX Z ?_;refine Bb (by exact rfl) (by exact rfl) (by exact rfl) (λd=>?_) (λd=>?_)
    ·have h:=Jl d h;refine eN Z .nil .nil (cO Z Z Z Z Z) aP.z<|eN Z (a_.cons 0 Z .nil) .nil (dO 0 Z Z Z Z Z) aP.z<|dN h λi j h=>IT Z Z Z Z (zBi PZ (DO U  i j) Z .nil) Z (λk=>(oU [([0],[])] Z)) λk=>bK 22 Z Z<|aQ Z (wT Z Z) Z<|aQ Z (FJ Z Z) Z<|dC Z<|aB Z<|aL ?_;exact bZ (decide ((jS .u32 a.2.2.2.2 i)=(0:Int))) () h SF .nil (aE.refl _ _)
    have h:=ZI d h;refine aV Z Z Z Z<|aV Z Z Z Z<|aV Z Z Z Z<|bK 22 Z Z<|aH Z<|aH Z<|dR Z<|aB Z<|aL ?_;exact bZ (false) () h SF .nil (aE.refl _ _)
   have h:=ZI b h;refine aV Z Z Z Z<|aV Z Z Z Z<|aV Z Z Z Z<|aV Z Z Z Z<|aV Z Z Z Z<|aV Z Z Z Z<|fW Z (tO Z Z)<|aX Z<|aV Z Z Z Z<|aV Z Z Z Z<|aV Z Z Z Z<|bK 22 Z Z<|aH Z<|aH Z<|dR Z<|aB Z<|aL ?_;exact bZ (false) () h SF .nil (aE.refl _ _)
  have h:=ZI e h;refine aV Z Z Z Z<|aV Z Z Z Z<|aV Z Z Z Z<|aV Z Z Z Z<|aV Z Z Z Z<|fW Z (tO Z Z)<|aX Z<|aV Z Z Z Z<|aV Z Z Z Z<|aV Z Z Z Z<|aV Z Z Z Z<|aV Z Z Z Z<|aV Z Z Z Z<|fW Z (tO Z Z)<|aX Z<|aV Z Z Z Z<|aV Z Z Z Z<|aV Z Z Z Z<|bK 22 Z Z<|aH Z<|aH Z<|dR Z<|aB Z<|aL ?_;exact bZ (false) () h SF .nil (aE.refl _ _)
 intro g o h;unfold oL at h;refine aR ?_;cases h;exact gF Z
def AI  (a:Int):Option (Int):=
 some (a)
def vC (c:eV) (b:fO->Option (Int)) (a:Int):Option (Int):=
 b (a,(wI .i64 (c.2+(1:Int))))
def rP (U:Nat) (d:Int) (a:eV) (b:fO->Option (Int)):Option (Int):=
 if a.2<(32:Int)then(Option.bind (pW U d a.2) λc=>(if c=true then(vC a b (wI .i64 (a.1+(1:Int))))else(vC a b (a.1))))else(AI  (a.1))
def xA (U:Nat) (a:Int):Option (Int):=
 bL (rP U a) U ((0:Int),(0:Int))
theorem aeP:aU Tryz.prog 85:=Tryz.call85
theorem Oh (U:Nat) {d:Int} (r:Int) (h:xA U d=some r):
  aW Tryz.prog 85 #[vU (d)] [] (λx:Unit=>vI (r)) (λx l=>l) (λ_ l=>l):=by
 refine aW.of Tryz.func85 Z Tryz.ntmps85 Z λc=>?_;unfold xA at h;refine aT<|aB Z<|aL<|aT<|aB Z<|aL<|aK<|dQ (λe=>AI  e=some r) (λe j=>[(3,vI (e))]) (λe j=>[]) ?_ ?_
 ·refine aT<|aB Z<|aL<|aS<|dZ (rP U d) (λb k=>[(0,vU (d)),(3,vI (b.1)),(4,vI (b.2))]) (λb k=>[]) ((0:Int),(0:Int)) () h SF (a_.refl _) ?_;intro m b k h;refine aK<|aT<|aA Z<|cN Z<|aL ?_;refine dY h Z (λh=>?_) λh=>?_
  ·refine cD<|aK<|dQ (λa=>vC b (bL (rP U d) m) a=some r) (λa f=>[(0,vU (d)),(3,vI (a)),(4,vI (b.2))]) (λa f=>[]) ?_ ?_
   ·refine aS<|aT<|aA Z<|aA Z<|dN h λg i h=>aG (zBi Ke (zO U  g i) Z .nil) Z λn=>aL ?_;refine tP h Z (λ_ h=>?_) λ_ h=>?_
    ·refine aO<|aA Z<|cB Z<|aB Z<|eM<|jE ?_;exact fE (wI .i64 (b.1+(1:Int))) () h SF Z
    refine cU<|jE ?_;exact fE (b.1) () h SF Z
   intro a f h;unfold vC at h;refine aO<|aA Z<|cB Z<|aB Z<|aL ?_;exact uG (a,(wI .i64 (b.2+(1:Int)))) () h SF Z
  refine eR ?_;exact fE (b.1) () h SF Z
 intro e j h;unfold AI at h;refine aT<|aA Z<|aB Z<|aL<|aR ?_;cases h;exact gF Z
def AJ (b:AN) (c:Int) (a:eV):Option Ph:=
 some ((((wI .i64 (b.1+(1:Int))),(wI .i64 (b.2.1+c)),a.1,(wI .i64 (b.2.2.1+(1:Int))),a.2)),(0:Int))
def CQ (U:Nat) (a:AN) (c:Int) (d:Int) (e:Bool):Option Ph:=
 if e=true then(some ((((0:Int),(0:Int),(0:Int),(0:Int),(0:Int))),(11:Int)))else(if a.1=(4096:Int)then(some ((((0:Int),(0:Int),(0:Int),(0:Int),(0:Int))),(3:Int)))else(Option.bind (xA U c) λb=>(if(dD .u32 (jS .u32 a.2.2.2.2 c) d)=(0:Int)then(AJ a b ((wI .i64 (a.2.2.1+(1:Int))),d))else(AJ a b (a.2.2.1,(dD .u32 (jS .u32 a.2.2.2.2 c) d))))))
def zN (U:Nat) (a:AN) (b:Int) (c:Int):Option Ph:=
 Option.bind (xC U ((a.1,a.2.1,a.2.2.1,a.2.2.2.1,a.2.2.2.2))) λe=>(if(!e)=true then(some ((((0:Int),(0:Int),(0:Int),(0:Int),(0:Int))),(7:Int)))else(if b=(0:Int)then(CQ U a b c (true))else(Option.bind (nC U (24:Int)) λd=>(CQ U a b c (decide ((jS .u32 (I_ .u32 b c) d)≠(0:Int)))))))
theorem aeD:aU Tryz.prog 50:=Tryz.call50
theorem Tg (U:Nat) {a:AN} {f:Int} {e:Int} (r:(Int×Int×Int×Int×Int)×Int) (h:zN U a f e=some r):
  aW Tryz.prog 50 #[Value.agg #[vI (a.1),vI (a.2.1),vI (a.2.2.1),vI (a.2.2.2.1),vU (a.2.2.2.2)],vU (f),vU (e)] [] (λx:Unit=>Value.tuple #[Value.agg #[vI (r.1.1),vI (r.1.2.1),vI (r.1.2.2.1),vI (r.1.2.2.2.1),vU (r.1.2.2.2.2)],vI (r.2)]) (λx l=>l) (λ_ l=>l):=by
 refine aW.of Tryz.func50 Z Tryz.ntmps50 Z λc=>?_;refine aT<|aG (aM.box (cs:=[vI (a.1),vI (a.2.1),vI (a.2.2.1),vI (a.2.2.2.1),vU (a.2.2.2.2)]) Z Z) Z λk=>aG (aM.alloc (cs:=TI) Z Z) Z λm=>aB Z<|aL<|aK<|aS<|aT<|cG 1 Z<|dN h λs t h=>aG (zBi aeO (Oj U  s t) Z .nil) Z λv=>aC (jC Z) Z<|aB Z<|aL ?_;refine tP h Z (λ_ h=>?_) λ_ h=>?_
 ·refine aT ?_;refine aC (Bd (r:=Value.agg #[vI (0:Int),vI (0:Int),vI (0:Int),vI (0:Int),vU (0:Int)]) (by intro w;simp[Instr.build,Instr.fill,dH,cR,cI,dJ,dK,cS,eI])) Z ?_;refine bH 0 (vs:=TI) Z Z Z Z Z Z<|aB Z<|aL<|aR<|bE<|aI ?_;cases h;exact eW () Z Z (RV.cell 0 Z Z Z Z) (RV.tmp Z) .nil aE.nil
 refine aK<|dQ (λg=>CQ U a f e g=some r) (λg q=>[(1,vU (f)),(2,vU (e)),(3,vP k),(6,vP m),(13,vB (g))]) (λg q=>[bS m TI 53,bS k [vI (a.1),vI (a.2.1),vI (a.2.2.1),vI (a.2.2.2.1),vU (a.2.2.2.2)] 53]) ?_ ?_
 ·refine aO<|aA Z<|bU Z<|aA Z ?_;refine AP h Z (λ_ h=>?_) λ_ h=>?_
  ·refine aH Z<|aH Z<|aH Z<|aH Z<|aH Z<|aH Z<|dC Z<|aB Z<|aL ?_;exact fE (true) () h SF Z
  refine cJ Z<|cJ Z<|aQ Z (PG Z Z) Z<|dN h λj o h=>iP Z (zBi PZ (DO U  j o) Z .nil) Z λu=>aQ Z (wT Z Z) Z<|aQ Z (CW Z Z) Z<|dR Z<|aB Z<|aL ?_;exact fE (decide ((jS .u32 (I_ .u32 f e) j)≠(0:Int))) () h SF Z
 intro g q h;refine tP h Z (λ_ h=>?_) λ_ h=>?_
 ·refine aT ?_;refine aC (Bd (r:=Value.agg #[vI (0:Int),vI (0:Int),vI (0:Int),vI (0:Int),vU (0:Int)]) (by intro w;simp[Instr.build,Instr.fill,dH,cR,cI,dJ,dK,cS,eI])) Z ?_;refine bH 0 (vs:=TI) Z Z Z Z Z Z<|aB Z<|aL<|aR<|bE<|aI ?_;cases h;exact eW () Z Z (RV.cell 0 Z Z Z Z) (RV.tmp Z) .nil aE.nil
 refine aT<|bN Z<|cT 1 Z<|bU Z<|aB Z<|aL ?_;refine dY h Z (λh=>?_) λh=>?_
 ·refine aT ?_;refine aC (Bd (r:=Value.agg #[vI (0:Int),vI (0:Int),vI (0:Int),vI (0:Int),vU (0:Int)]) (by intro w;simp[Instr.build,Instr.fill,dH,cR,cI,dJ,dK,cS,eI])) Z ?_;refine bH 0 (vs:=TI) Z Z Z Z Z Z<|aB Z<|aL<|aR<|bE<|aI ?_;cases h;exact eW () Z Z (RV.cell 0 Z Z Z Z) (RV.tmp Z) .nil aE.nil
 refine cU<|jE<|aT<|bN Z<|cT 1 Z<|cB Z<|bN Z<|eB 1 Z Z Z Z Z Z<|aL<|aK ?_;refine JR.start [0,1,0,4,15,31,63] 4 mixedOrders (by decide +kernel) ?_;refine zBl (by exact rfl) ?_;refine cP Z<|fG 1 Z<|aX Z<|dN h λd n h=>zBk Z Z Z (zBi aeP (Oh U  d n) Z .nil) Z (λp=>(oU [([1],[])] Z)) λp=>bK 4 Z Z<|cB Z<|bN Z<|eB 1 Z Z Z Z Z Z<|aL<|aT<|bN Z<|cT 1 Z<|cB Z<|bN Z<|eB 1 Z Z Z Z Z Z<|aL<|aT<|bN Z<|cT 1 Z<|aA Z<|aC (wT Z Z) Z<|aA Z<|uU Z<|bN Z<|eB 1 Z Z Z Z Z Z<|aL<|aK<|dQ (λb=>AJ a d b=some r) (λb i=>[(3,vP k),(6,vP m)]) (λb i=>[bS m TI 53,bS k [vI (wI .i64 (a.1+(1:Int))),vI (wI .i64 (a.2.1+d)),vI (b.1),vI (wI .i64 (a.2.2.1+(1:Int))),vU (b.2)] 53]) ?_ ?_
 ·refine aT<|bN Z<|cT 1 Z<|bU Z<|aL ?_;refine dY h Z (λh=>?_) λh=>?_
  ·refine aO<|bN Z<|cT 1 Z<|aA Z<|bN Z<|eB 1 Z Z Z Z Z Z<|bN Z<|eB 1 Z Z Z Z Z Z<|aL ?_;exact fE ((wI .i64 (a.2.2.1+(1:Int))),e) () h SF Z
  refine cD ?_;exact fE (a.2.2.1,(dD .u32 (jS .u32 a.2.2.2.2 f) e)) () h SF Z
 intro b i h;unfold AJ at h;refine aT<|cG 1 Z<|bH 0 (vs:=[vI (wI .i64 (a.1+(1:Int))),vI (wI .i64 (a.2.1+d)),vI (b.1),vI (wI .i64 (a.2.2.1+(1:Int))),vU (b.2)]) Z Z Z Z Z Z<|aB Z<|aL<|aR ?_;cases h;exact eW () Z Z (RV.cell 0 Z Z Z Z) (RV.tmp Z) .nil aE.nil
def yK  (a:aY×Int×Int×Int×Int×Int×bO×aY):Option oM:=
 some (((a.1,a.2.2.2.2.2.2.2,a.2.2.2.2.2.2.1,((a.2.1,a.2.2.1,a.2.2.2.1,a.2.2.2.2.1,a.2.2.2.2.2.1)))),(0:Int))
def Cn (U:Nat) (a:aaG) (d:aaF->Option oM) (e:Int) (f:bO×Int) (c:Int) (g:Unit):Option oM:=
 Option.bind (zN U ((a.2.2.2.1,a.2.2.2.2.1,a.2.2.2.2.2.1,a.2.2.2.2.2.2.1,a.2.2.2.2.2.2.2.1)) e c) λb=>(d (c,(wI .i64 (a.2.1+(1:Int))),(a.2.2.1++[e]),b.1.1,b.1.2.1,b.1.2.2.1,b.1.2.2.2.1,b.1.2.2.2.2,f.1,(a.2.2.2.2.2.2.2.2.2++[c])))
def sT (U:Nat) (c:iH) (d:cC) (j:Int) (k:Int) (i:aY) (a:aaG) (e:aaF->Option oM) (h:Bool):Option oM:=
 if h=true then(ck (0<=a.2.1∧a.2.1<(i.length:Int)) (Option.bind (sP U ((d.1,d.2)) j a.1 (at' i a.2.1)) λb=>(Option.bind (Am U ((c.1,c.2.1,c.2.2)) ((d.1,d.2)) a.2.2.2.2.2.2.2.2.1 b) λf=>(Option.bind (g_ U ((c.1,c.2.1,c.2.2)) ((d.1,d.2)) f.1 k) λg=>(ck ((a.2.2.1.length:Int)+(List.length ([b]):Int)<=1099511627) (ck ((a.2.2.2.2.2.2.2.2.2.length:Int)+(List.length ([g]):Int)<=1099511627) (Cn U a e b f g (()))))))))else(yK  (a.2.2.1,a.2.2.2.1,a.2.2.2.2.1,a.2.2.2.2.2.1,a.2.2.2.2.2.2.1,a.2.2.2.2.2.2.2.1,a.2.2.2.2.2.2.2.2.1,a.2.2.2.2.2.2.2.2.2))
def mQ (U:Nat) (d:iH) (e:cC) (f:Int) (g:Int) (c:aY) (a:aaG) (b:aaF->Option oM):Option oM:=
 if a.2.1<(c.length:Int)then(sT U d e f g c a b (decide (a.1≠(0:Int))))else(sT U d e f g c a b (false))
def oC (U:Nat) (b:iH) (d:cC) (g:Int) (e:bO) (h:Int) (i:aY):Option oM:=
 Option.bind (kL U ((b.1,b.2.1,b.2.2)) ((d.1,d.2)) e) λj=>(if j≠(0:Int)then(some (((([]:aY),([]:aY),([]:bO),(((0:Int),(0:Int),(0:Int),(0:Int),(0:Int))))),j))else(Option.bind (lT U g) λk=>(if(!k)=true then(some (((([]:aY),([]:aY),([]:bO),(((0:Int),(0:Int),(0:Int),(0:Int),(0:Int))))),(12:Int)))else(if(4096:Int)<(i.length:Int)then(some (((([]:aY),([]:aY),([]:bO),(((0:Int),(0:Int),(0:Int),(0:Int),(0:Int))))),(3:Int)))else(Option.bind (g_ U ((b.1,b.2.1,b.2.2)) ((d.1,d.2)) e h) λc=>(Option.bind (vW U e) λf=>(Option.bind (xB U c) λa=>(bL (mQ U b d g h i) U (c,(0:Int),([]:aY),a.1,a.2.1,a.2.2.1,a.2.2.2.1,a.2.2.2.2,f,([c]))))))))))
theorem aet:aU Tryz.prog 21:=Tryz.call21
theorem NE (U:Nat) {t:iH} {T:cC} {G:Int} {p3:bO} {H:Int} {Y:aY} (A:Value)  (C:Value)  (D:Value)  (E:Value)  (z4:jA)  (v5:Value)  (z6:lO)  (v7:Value) (r:Wr) (h:oC U t T G p3 H Y=some r):
  aW Tryz.prog 21 #[Value.agg #[vS (t.1),A,C],Value.agg #[D,E],vI (G),v5,vU (H),v7] [Sl aN A t.2.1,Sl aJ C t.2.2,PF (Value.agg #[vS t.1,A,C]),Sl bR D T.1,S2 bD E z4 T.2,S2 bR v5 z6 p3,Sl tY v7 Y] (λx:Ij=>Value.tuple #[Value.agg #[x.1,x.2.1,x.2.2.1,vI (r.1.2.2.2.1),vI (r.1.2.2.2.2.1),vI (r.1.2.2.2.2.2.1),vI (r.1.2.2.2.2.2.2.1),vU (r.1.2.2.2.2.2.2.2)],vI (r.2)]) (λx l=>Ar fX x.1 r.1.1::Ar fX x.2.1 r.1.2.1::Ar eO.raw x.2.2.1 x.2.2.2::jM cK x.2.2.2 r.1.2.2.1::l) (λ_ l=>l):=by
 refine aW.of Tryz.func21 Z Tryz.ntmps21 Z λc=>?_;refine aT<|aG (aM.box (cs:=[vS (t.1),A,C]) Z Z) Z λW=>aG (aM.box (cs:=[D,E]) Z Z) Z λX=>aG (aM.alloc (cs:=yO) Z Z) Z λJ=>aB Z<|aL<|aT<|cG 2 Z<|cG 1 Z<|aA Z<|dN h λr4 w5 h=>aG (zBi Ue (Em U A C D E z4 v5 z6 r4 w5) Z (jF [0,1,2,3,4,5] Z)) Z λx6=>aB Z<|aL<|aK<|aS<|aT<|aA Z<|kH Z<|aB Z<|aL ?_;refine dY h Z (λh=>?_) λh=>?_
 ·refine aT ?_;refine aC (Bd (r:=Value.agg #[iO,iO,iO,vI (0:Int),vI (0:Int),vI (0:Int),vI (0:Int),vU (0:Int)]) (by intro w;simp[Instr.build,Instr.fill,dH,cR,cI,dJ,dK,cS,eI])) Z ?_;refine aA Z<|bH 0 (vs:=yO) Z Z Z Z Z Z<|aB Z<|aL<|aR<|bE<|aI<|eX (dG fX)<|eX (dG fX)<|eX (dG eO.raw) (eX (j_ cK) ?_);cases h;exact eW ((iO),(iO),(iO),([]:fP)) Z Z (RV.cell 4 Z Z Z Z) (RV.tmp Z) (a_.ix [2,3,1,0] Z Z) aE.nil
 refine aT<|aA Z<|dN h λr8 w9 h=>aG (zBi YI (Ih U  r8 w9) Z .nil) Z λa2=>aC (jC Z) Z<|aB Z<|aL ?_;refine tP h Z (λ_ h=>?_) λ_ h=>?_
 ·refine aT ?_;refine aC (Bd (r:=Value.agg #[iO,iO,iO,vI (0:Int),vI (0:Int),vI (0:Int),vI (0:Int),vU (0:Int)]) (by intro w;simp[Instr.build,Instr.fill,dH,cR,cI,dJ,dK,cS,eI])) Z ?_;refine bH 0 (vs:=yO) Z Z Z Z Z Z<|aB Z<|aL<|aR<|bE<|aI<|eX (dG fX)<|eX (dG fX)<|eX (dG eO.raw) (eX (j_ cK) ?_);cases h;exact eW ((iO),(iO),(iO),([]:fP)) Z Z (RV.cell 4 Z Z Z Z) (RV.tmp Z) (a_.ix [2,3,1,0] Z Z) aE.nil
 refine aT<|aA Z<|gW (aD.fact 6 Z) Z<|aC (tM Z Z) Z<|aB Z<|aL ?_;refine dY h Z (λh=>?_) λh=>?_
 ·refine aT ?_;refine aC (Bd (r:=Value.agg #[iO,iO,iO,vI (0:Int),vI (0:Int),vI (0:Int),vI (0:Int),vU (0:Int)]) (by intro w;simp[Instr.build,Instr.fill,dH,cR,cI,dJ,dK,cS,eI])) Z ?_;refine bH 0 (vs:=yO) Z Z Z Z Z Z<|aB Z<|aL<|aR<|bE<|aI<|eX (dG fX)<|eX (dG fX)<|eX (dG eO.raw) (eX (j_ cK) ?_);cases h;exact eW ((iO),(iO),(iO),([]:fP)) Z Z (RV.cell 4 Z Z Z Z) (RV.tmp Z) (a_.ix [2,3,1,0] Z Z) aE.nil
 refine cU<|jE<|aT<|cG 2 Z<|cG 1 Z<|aA Z<|aA Z<|dN h λu ay h=>aG (zBi Ud (Cq U A C D E z4 v5 z6 u ay) Z (jF [0,1,2,3,4,5] Z)) Z λa3=>aB Z<|aL<|aT<|aA Z<|aG (cE (e:=fX) ([u]) [(0,vU (u))] Z Z Z Z (gM (vU (u)) Z) Z Z Z) Z λV=>aA Z<|dN h λan az h=>aG (zBi YJ (JL U v5 z6 an az) Z (jF [5] Z)) Z λI=>aA Z<|dN h λg aF h=>aG (zBi aeA (Oi U  g aF) Z .nil) Z λa4=>bQ (Know.one ((bB (aD.res 2 Z) fS))) λab=>bQ (Know.one (aD.sl (bF (i:=0) (j:=1) Z Z dW))) λac=>?_;refine aC (Iq (r:=Value.agg #[iO,V,I.1,vI (g.1),vI (g.2.1),vI (g.2.2.1),vI (g.2.2.2.1),vU (g.2.2.2.2)]) Z Z Z (by intro w;simp[Instr.build,Instr.fill,dH,cR,cI,dJ,dK,cS,eI,gQ ab,gQ ac])) Z ?_;refine aG (aM.alloc (cs:=yO) Z Z) Z λp=>bQ (Know.one ((bB (aD.res 3 Z) fS))) λad=>bQ (Know.one (aD.sl (bF (i:=1) (j:=2) Z Z dW))) λae=>bH 0 (vs:=[iO,V,I.1,vI (g.1),vI (g.2.1),vI (g.2.2.1),vI (g.2.2.2.1),vU (g.2.2.2.2)]) Z Z (c_ Z (c_ ad (c_ ae (c_ Z (c_ Z (c_ Z (c_ Z (c_ Z Z)))))))) Z Z Z<|aL<|aK<|Bn (B:=Ij) (λd=>yK  d=some r) (λd f=>[(12,vP J),(16,vP p)]) (λd f=>[bS p [f.1,f.2.1,f.2.2.1,vI (d.2.1),vI (d.2.2.1),vI (d.2.2.2.1),vI (d.2.2.2.2.1),vU (d.2.2.2.2.2.1)] 55,Ar eO.raw f.2.2.1 f.2.2.2,jM cK f.2.2.2 d.2.2.2.2.2.2.1,Ar fX f.2.1 d.2.2.2.2.2.2.2,bS J yO 55,Ar fX f.1 d.1]) ?_ ?_
 ·refine aT<|aB Z<|aL<|aS<|eX (dG fX)<|dZ (B:=Ij) (mQ U t T G H Y) (λa b=>[(2,vI (G)),(4,vU (H)),(5,v7),(6,vP W),(7,vP X),(12,vP J),(15,vU (a.1)),(16,vP p),(17,vI (a.2.1))]) (λa b=>[bS p [b.1,b.2.1,b.2.2.1,vI (a.2.2.2.1),vI (a.2.2.2.2.1),vI (a.2.2.2.2.2.1),vI (a.2.2.2.2.2.2.1),vU (a.2.2.2.2.2.2.2.1)] 55,Ar eO.raw b.2.2.1 b.2.2.2,jM cK b.2.2.2 a.2.2.2.2.2.2.2.2.1,Ar fX b.2.1 a.2.2.2.2.2.2.2.2.2,bS J yO 55,bS X [D,E] 29,bS W [vS (t.1),A,C] 36,Ar fX b.1 a.2.2.1]) (u,(0:Int),([]:aY),g.1,g.2.1,g.2.2.1,g.2.2.2.1,g.2.2.2.2,an,([u])) ((iO),V,I.1,I.2) h SF (a_.ix [1,2,3,4,5,6,7,0] Z Z) ?_;intro am a b h;refine aK<|aK<|dQ (λv=>sT U t T G H Y a (bL (mQ U t T G H Y) am) v=some r) (λv aa=>[(2,vI (G)),(4,vU (H)),(5,v7),(6,vP W),(7,vP X),(12,vP J),(15,vU (a.1)),(16,vP p),(17,vI (a.2.1)),(57,vB (v))]) (λv aa=>[bS p [b.1,b.2.1,b.2.2.1,vI (a.2.2.2.1),vI (a.2.2.2.2.1),vI (a.2.2.2.2.2.1),vI (a.2.2.2.2.2.2.1),vU (a.2.2.2.2.2.2.2.1)] 55,Ar eO.raw b.2.2.1 b.2.2.2,jM cK b.2.2.2 a.2.2.2.2.2.2.2.2.1,Ar fX b.2.1 a.2.2.2.2.2.2.2.2.2,bS J yO 55,bS X [D,E] 29,bS W [vS (t.1),A,C] 36,Ar fX b.1 a.2.2.1]) ?_ ?_
  ·refine aO<|aA Z<|aA Z<|gW (aD.fact 6 Z) Z<|cN Z<|aA Z ?_;refine AP h Z (λ_ h=>?_) λ_ h=>?_
   ·refine cJ Z<|aQ Z (CW Z Z) Z<|dC Z<|aL ?_;exact fE (decide (a.1≠(0:Int))) () h SF Z
   refine aH Z<|aH Z<|dR Z<|aL ?_;exact fE (false) () h SF Z
  intro v aa h;refine tP h Z (λ_ h=>?_) λ_ h=>?_
  ·refine cD<|aK<|aS<|aK ?_;refine JR.start [0,0,0,0,0,24,56,127,255] 7 mixedOrders (by decide +kernel) ?_;refine zBl (by exact rfl) ?_;refine gN 5 Z<|aX Z<|aX Z<|aX Z<|aX Z<|dB h λal h=>bG Z .nil (iI 6 Z) (aZ Z Z (aD.fact 0 Z) Z Z al) aP.z<|bG Z .nil (iI 6 Z) (bY Z (aD.fact 0 Z) Z Z Z DV al) aP.z<|bK 7 Z Z<|dN h λm aU h=>aG (zBi aeB (Lu U D E z4 m aU) Z (jF [3,4] Z)) Z λa5=>aB Z<|aL<|aT<|cG 6 Z<|cG 5 Z<|bN Z<|cT 0 Z<|aA Z<|dN h λy aV h=>aG (zBi aeC (QV U A C D E z4 b.2.2.1 (List.zip b.2.2.2 a.2.2.2.2.2.2.2.2.1) y aV) Z (aE.cons (aD.fact 0 Z) (aE.cons (aD.fact 1 Z) (aE.cons (aD.fact 2 Z) (aE.cons (aD.fact 3 Z) (aE.cons (aD.fact 4 Z) (aE.cons (bF (i:=1) (j:=2) Z Z dW) .nil))))))) Z λs=>aA Z<|eS Z<|eS Z<|bN Z<|bQ (Know.one (aD.sl (bF (i:=0) (j:=1) Z Z dW))) λai=>eB 2 Z Z ai Z Z Z<|aL<|aT<|cG 8 Z<|cG 7 Z<|bN Z<|cT 2 Z<|aA Z<|dN h λk a0 h=>aG (zBi Ud (Cq U A C D E z4 s.1 (List.zip s.2 y.1) k a0) Z (aE.cons (aD.fact 0 Z) (aE.cons (aD.fact 1 Z) (aE.cons (aD.fact 2 Z) (aE.cons (aD.fact 3 Z) (aE.cons (aD.fact 4 Z) (aE.cons (bF (i:=0) (j:=1) Z Z dW) .nil))))))) Z λa6=>aB Z<|aL<|aK<|Bn (B:=Value×Value) (λF=>Cn U a (bL (mQ U t T G H Y) am) m y k F=some r) (λF q=>[(2,vI (G)),(4,vU (H)),(5,v7),(6,vP W),(7,vP X),(12,vP J),(15,vU (k)),(16,vP p),(17,vI (a.2.1)),(18,vU (m))]) (λF q=>[Ar eO.raw s.1 s.2,jM cK s.2 y.1,bS p [q.1,q.2,s.1,vI (a.2.2.2.1),vI (a.2.2.2.2.1),vI (a.2.2.2.2.2.1),vI (a.2.2.2.2.2.2.1),vU (a.2.2.2.2.2.2.2.1)] 55,Ar fX q.2 (a.2.2.2.2.2.2.2.2.2++[k]),bS J yO 55,bS X [D,E] 29,bS W [vS (t.1),A,C] 36,Ar fX q.1 (a.2.2.1++[m])]) ?_ ?_
   ·have⟨j88,h⟩:=Qd h;refine dB h λS h=>Ot [0,1,0,4,15,0,32,0,128,511,127,2047,4095,8191] 11 [[0,1,2,5,6,7,3,4,10,8,9,11,12,13],[0,1,2,5,6,7,3,8,4,10,9,11,12,13],[0,1,2,5,6,7,8,3,4,10,9,11,12,13]] mixedOrders (by decide +kernel) (by decide +kernel) ?_;intro o ho;simp only[zAn,zB7,or_false]at ho;rcases ho with rfl|rfl|rfl
    ·refine cP Z<|fG 2 Z<|aX Z<|cP Z<|fG 2 Z<|aX Z<|zBk Z Z Z (cE (e:=fX) ([m]) [(0,vU (m))] Z Z Z Z (gM (vU (m)) Z) Z Z Z) Z (λaw=>(oU [([3],[]),([3],[])] Z)) λaw=>zBk Z Z Z (eG 10 fS Z Z Z (bB (aD.res 0 Z) fS) Z Z Z Z j88 Z) Z (λau=>(oU [([3],[])] Z)) λau=>fW Z (cO Z Z Z Z Z)<|zBk Z Z Z (cE (e:=fX) ([k]) [(0,vU (k))] Z Z Z Z (gM (vU (k)) Z) Z Z Z) Z (λax=>(oU [([4],[]),([4],[])] Z)) λax=>zBk Z Z Z (eG 7 fS Z Z Z (bB (aD.res 0 Z) fS) Z Z Z Z S Z) Z (λav=>(oU [] Z)) λav=>bK 11 Z Z<|bQ (Know.one ((bB (aD.res 11 Z) fS))) λaj=>eB 4 Z Z aj Z Z Z<|bN Z<|bQ (Know.one ((bB (aD.res 7 Z) fS))) λak=>eB 4 Z Z ak Z Z Z<|aL ?_;exact bZ () (au,av) h SF (a_.ix [2,3,4,7,8,9,10,11] Z Z) (aE.refl _ _)
    ·refine cP Z<|fG 2 Z<|aX Z<|cP Z<|fG 2 Z<|aX Z<|zBk Z Z Z (cE (e:=fX) ([m]) [(0,vU (m))] Z Z Z Z (gM (vU (m)) Z) Z Z Z) Z (λao=>(oU [([3],[]),([3],[])] Z)) λao=>zBk Z Z Z (cE (e:=fX) ([k]) [(0,vU (k))] Z Z Z Z (gM (vU (k)) Z) Z Z Z) Z (λap=>(oU [([4],[]),([4],[])] Z)) λap=>zBk Z Z Z (eG 11 fS Z Z Z (bB (aD.res 1 Z) fS) Z Z Z Z j88 Z) Z (λK=>(oU [([4],[])] Z)) λK=>fW Z (cO Z Z Z Z Z)<|zBk Z Z Z (eG 7 fS Z Z Z (bB (aD.res 0 Z) fS) Z Z Z Z S Z) Z (λL=>(oU [] Z)) λL=>bK 11 Z Z<|bQ (Know.one ((bB (aD.res 11 Z) fS))) λO=>eB 4 Z Z O Z Z Z<|bN Z<|bQ (Know.one ((bB (aD.res 7 Z) fS))) λP=>eB 4 Z Z P Z Z Z<|aL ?_;exact bZ () (K,L) h SF (a_.ix [2,3,4,7,8,9,10,11] Z Z) (aE.refl _ _)
    refine cP Z<|fG 2 Z<|aX Z<|cP Z<|fG 2 Z<|aX Z<|zBk Z Z Z (cE (e:=fX) ([k]) [(0,vU (k))] Z Z Z Z (gM (vU (k)) Z) Z Z Z) Z (λaq=>(oU [([3],[]),([3],[])] Z)) λaq=>zBk Z Z Z (cE (e:=fX) ([m]) [(0,vU (m))] Z Z Z Z (gM (vU (m)) Z) Z Z Z) Z (λar=>(oU [([4],[]),([4],[])] Z)) λar=>zBk Z Z Z (eG 11 fS Z Z Z (bB (aD.res 0 Z) fS) Z Z Z Z j88 Z) Z (λM=>(oU [([4],[])] Z)) λM=>fW Z (cO Z Z Z Z Z)<|zBk Z Z Z (eG 7 fS Z Z Z (bB (aD.res 1 Z) fS) Z Z Z Z S Z) Z (λN=>(oU [] Z)) λN=>bK 11 Z Z<|bQ (Know.one ((bB (aD.res 11 Z) fS))) λQ=>eB 4 Z Z Q Z Z Z<|bN Z<|bQ (Know.one ((bB (aD.res 7 Z) fS))) λR=>eB 4 Z Z R Z Z Z<|aL ?_;exact bZ () (M,N) h SF (a_.ix [2,3,4,7,8,9,10,11] Z Z) (aE.refl _ _)
   intro F q h;refine aO<|bN Z<|aC (Ir 2 (us:=[vI (a.2.2.2.1),vI (a.2.2.2.2.1),vI (a.2.2.2.2.2.1),vI (a.2.2.2.2.2.2.1),vU (a.2.2.2.2.2.2.2.1)]) Z Z Z Z Z Z) Z<|aA Z<|aA Z<|dN h λn a1 h=>aG (zBi aeD (Tg U  n a1) Z .nil) Z λa7=>aA Z<|eS Z<|eS Z<|bN Z<|LC (CV 2 (us:=[vI (n.1.1),vI (n.1.2.1),vI (n.1.2.2.1),vI (n.1.2.2.2.1),vU (n.1.2.2.2.2)]) Z Z Z Z Z Z Z Z Z) λa8=>eM<|jE<|aO<|aA Z<|cB Z<|aB Z<|aL ?_;exact kM (k,(wI .i64 (a.2.1+(1:Int))),(a.2.2.1++[m]),n.1.1,n.1.2.1,n.1.2.2.1,n.1.2.2.2.1,n.1.2.2.2.2,y.1,(a.2.2.2.2.2.2.2.2.2++[k])) (q.1,q.2,s.1,s.2) h SF (a_.ix [2,0,1,3,4,5,6,7] Z Z) (aE.refl _ _)
  refine eR ?_;exact bZ (a.2.2.1,a.2.2.2.1,a.2.2.2.2.1,a.2.2.2.2.2.1,a.2.2.2.2.2.2.1,a.2.2.2.2.2.2.2.1,a.2.2.2.2.2.2.2.2.1,a.2.2.2.2.2.2.2.2.2) (b.1,b.2.1,b.2.2.1,b.2.2.2) h SF (a_.ix [0,1,2,3,4,7] Z Z) (aE.refl _ _)
 intro d f h;unfold yK at h;refine aT<|cG 0 Z<|bQ (Know.one ((bB (aD.res 5 Z) fS))) λaf=>bQ (Know.one ((bB (aD.res 3 Z) fS))) λag=>bQ (Know.one (aD.sl (bF (i:=1) (j:=2) Z Z dW))) λah=>bH 4 (vs:=[f.1,f.2.1,f.2.2.1,vI (d.2.1),vI (d.2.2.1),vI (d.2.2.2.1),vI (d.2.2.2.2.1),vU (d.2.2.2.2.2.1)]) Z Z (c_ af (c_ ag (c_ ah (c_ Z (c_ Z (c_ Z (c_ Z (c_ Z Z)))))))) Z Z Z<|aB Z<|aL<|aR ?_;cases h;exact eW (f.1,f.2.1,f.2.2.1,f.2.2.2) Z Z (RV.cell 4 Z Z Z Z) (RV.tmp Z) (a_.ix [5,3,1,2] Z Z) aE.nil
end Go.Proofs.YtahgemjmgopleaaGreatDoor