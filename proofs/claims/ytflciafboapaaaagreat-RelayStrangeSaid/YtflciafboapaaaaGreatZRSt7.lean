/- Models and proofs. Conditions: none. -/
import Derived.Test.YtflciafboapaaaaGreatZRSt6
import Derived.Test.YtflciafboapaaaaGreatZRSt2
import Derived.Test.YtflciafboapaaaaGreatZRSt5
set_option linter.unusedVariables false
set_option linter.unusedSimpArgs false
set_option maxHeartbeats 4000000
set_option maxRecDepth 20000
namespace Go.Proofs.YtflciafboapaaaaGreat
open Go.Sx
def AV  (a:Int):Option (Int):=
 some (a)
def wE (U:Nat) (d:cC) (a:Int) (b:(Int)->Option (Int)):Option (Int):=
 Option.bind (tO U d a) λc=>(if c=true then(b (wI .i64 (a+(1:Int))))else(AV  (a)))
def sF (U:Nat) (a:Int) (c:cC) (b:Int×Int×Int×Int×Int×Int):Option (Int):=
 if a=(20:Int)then(Option.bind (fT U (decide (b.1=(c.length:Int)))) λd=>(some (d)))else(if a=(21:Int)then(Option.bind (fT U (decide ((0:Int)<b.1))) λe=>(some (e)))else(if a=(22:Int)then(some (b.1))else(if a=(23:Int)then(some (b.2.1))else(if a=(24:Int)then(some (b.2.2.1))else(if a=(25:Int)then(some (b.2.2.2.1))else(if a=(26:Int)then(Option.bind (nA U b.2.2.2.2.2) λf=>(some (f)))else(if a=(28:Int)then(some (b.2.2.2.2.1))else(if a=(27:Int)then(bP (wE U c) U (0:Int))else(if(c.length:Int)=(0:Int)then(some (0:Int))else(ck (0<=(0:Int)∧(0:Int)<(c.length:Int)) (some (at' c (0:Int)))))))))))))
def AX (b:cC) (a:Qc) (c:TF->Option (Int)) (d:Int) (e:Int):Option (Int):=
 ck (0<=a.2.2.2.2.2.2∧a.2.2.2.2.2.2<(b.length:Int)) (ck (0<=a.2.2.2.2.2.2∧a.2.2.2.2.2.2<(b.length:Int)) (ck (0<=a.2.2.2.2.2.2∧a.2.2.2.2.2.2<(b.length:Int)) (ck (0<=a.2.2.2.2.2.2∧a.2.2.2.2.2.2<(b.length:Int)) (c (d,e,(min a.2.2.1 (at' b a.2.2.2.2.2.2)),(max a.2.2.2.1 (at' b a.2.2.2.2.2.2)),(max a.2.2.2.2.1 (min a.2.2.2.1 (at' b a.2.2.2.2.2.2))),(wI .i64 (a.2.2.2.2.2.1+(at' b a.2.2.2.2.2.2))),(wI .i64 (a.2.2.2.2.2.2+(1:Int))))))))
def AY (e:cC) (a:Qc) (b:TF->Option (Int)) (c:Int) (d:Bool):Option (Int):=
 if d=true then(AX e a b c (a.2.2.2.2.2.2))else(AX e a b c (a.2.1))
def AW (d:cC) (a:Qc) (b:TF->Option (Int)) (c:Int):Option (Int):=
 ck (0<=a.2.2.2.2.2.2∧a.2.2.2.2.2.2<(d.length:Int)) (if(at' d a.2.2.2.2.2.2)≠(0:Int)then(AY d a b c (decide (a.2.1<(0:Int))))else(AY d a b c (false)))
def mY (U:Nat) (d:Int) (c:cC) (a:Qc) (b:TF->Option (Int)):Option (Int):=
 if a.2.2.2.2.2.2<(c.length:Int)then(ck (0<=a.2.2.2.2.2.2∧a.2.2.2.2.2.2<(c.length:Int)) (if(at' c a.2.2.2.2.2.2)≠(0:Int)then(AW c a b (wI .i64 (a.1+(1:Int))))else(AW c a b (a.1))))else(sF U d c (a.1,a.2.1,a.2.2.1,a.2.2.2.1,a.2.2.2.2.1,a.2.2.2.2.2.1))
def oW (U:Nat) (a:Int) (b:cC):Option (Int):=
 bP (mY U a b) U ((0:Int),(-1:Int),(1073741824:Int),(-1073741824:Int),(-1073741824:Int),(0:Int),(0:Int))
theorem Zd:bD Tryz.prog 203:=Tryz.call203
theorem Ov (U:Nat) {p:Int} {g:cC} (q:Value) (r:Int) (h:oW U p g=some r):
  bG Tryz.prog 203 #[vI (p),q] [Sl aP q g] (λx:Unit=>vI (r)) (λx l=>l) (λ_ l=>l):=by
 refine bG.of Tryz.func203 Z Tryz.ntmps203 Z λc=>?_;unfold oW at h;refine aX<|aD Z<|aQ<|aX<|aD Z<|aD Z<|aD Z<|aD Z<|aD Z<|aD Z<|aQ<|aN<|eG (λo=>sF U p g o=some r) (λo Q=>[(0,vI (p)),(1,q),(5,vI (o.1)),(6,vI (o.2.1)),(7,vI (o.2.2.1)),(8,vI (o.2.2.2.1)),(9,vI (o.2.2.2.2.1)),(10,vI (o.2.2.2.2.2))]) (λo Q=>[]) ?_ ?_
 ·refine aX<|aD Z<|aQ<|aW<|fJ (mY U p g) (λa v=>[(0,vI (p)),(1,q),(5,vI (a.1)),(6,vI (a.2.1)),(7,vI (a.2.2.1)),(8,vI (a.2.2.2.1)),(9,vI (a.2.2.2.2.1)),(10,vI (a.2.2.2.2.2.1)),(11,vI (a.2.2.2.2.2.2))]) (λa v=>[]) ((0:Int),(-1:Int),(1073741824:Int),(-1073741824:Int),(-1073741824:Int),(0:Int),(0:Int)) () h SF (a_.refl _) ?_;intro H a v h;let m:=a.2.2.1;let s:=(bP (mY U p g) H)
  let b:=a.2.2.2;let n:=b.2.2.1;let e:=b.2.2.2;refine aN<|aX<|aB Z<|aB Z<|jM (aA.fact 0 Z) Z<|cX Z<|aQ ?_;refine eJ h Z (λh=>?_) λh=>?_
  ·refine cK<|aN<|aW<|aN<|eG (λd=>AW g a s d=some r) (λd w=>[(0,vI (p)),(1,q),(5,vI (d)),(6,vI (a.2.1)),(7,vI (m)),(8,vI (b.1)),(9,vI (b.2.1)),(10,vI (n)),(11,vI (e))]) (λd w=>[]) ?_ ?_
   ·refine aX<|aB Z<|aB Z<|cQ h λG h=>aC (bI Z Z (aA.fact 0 Z) Z Z G) Z<|aC (cL Z (aA.fact 0 Z) Z Z Z fN G) Z<|kA Z<|aQ ?_;refine eJ h Z (λh=>?_) λh=>?_
    ·refine aU<|aB Z<|cW Z<|aD Z<|aQ ?_;exact gJ (wI .i64 (a.1+(1:Int))) () h SF Z
    refine cK ?_;exact gJ (a.1) () h SF Z
   intro d w h;refine aN<|eG (λf=>AX g a s d f=some r) (λf y=>[(0,vI (p)),(1,q),(5,vI (d)),(6,vI (f)),(7,vI (m)),(8,vI (b.1)),(9,vI (b.2.1)),(10,vI (n)),(11,vI (e))]) (λf y=>[]) ?_ ?_
   ·refine aN<|eG (λk=>AY g a s d k=some r) (λk z=>[(0,vI (p)),(1,q),(5,vI (d)),(6,vI (a.2.1)),(7,vI (m)),(8,vI (b.1)),(9,vI (b.2.1)),(10,vI (n)),(11,vI (e)),(34,vB (k))]) (λk z=>[]) ?_ ?_
    ·refine aU<|aB Z<|aB Z<|cQ h λF h=>aC (bI Z Z (aA.fact 0 Z) Z Z F) Z<|aC (cL Z (aA.fact 0 Z) Z Z Z fN F) Z<|kA Z<|aB Z ?_;refine AL h Z (λ_ h=>?_) λ_ h=>?_
     ·refine dH Z<|aR Z (EO Z Z) Z<|dG Z<|aQ ?_;exact gJ (decide (a.2.1<(0:Int))) () h SF Z
     refine aK Z<|aK Z<|dR Z<|aQ ?_;exact gJ (false) () h SF Z
    intro k z h;refine qS h Z (λ_ h=>?_) λ_ h=>?_
    ·refine aU<|aB Z<|aD Z<|aQ ?_;exact gJ (e) () h SF Z
    refine cK ?_;exact gJ (a.2.1) () h SF Z
   intro f y h;refine aX<|aB Z<|aB Z<|aB Z<|cQ h λB h=>aC (bI Z Z (aA.fact 0 Z) Z Z B) Z<|aC (cL Z (aA.fact 0 Z) Z Z Z fN B) Z<|aC (Mo Z Z) Z<|aD Z<|aQ<|aX<|aB Z<|aB Z<|aB Z<|aB Z<|cQ h λC h=>aC (bI Z Z (aA.fact 0 Z) Z Z C) Z<|aC (cL Z (aA.fact 0 Z) Z Z Z fN C) Z<|aC (Mo Z Z) Z<|aC (HO Z Z) Z<|aD Z<|aQ<|aX<|aB Z<|aB Z<|aB Z<|cQ h λD h=>aC (bI Z Z (aA.fact 0 Z) Z Z D) Z<|aC (cL Z (aA.fact 0 Z) Z Z Z fN D) Z<|aC (HO Z Z) Z<|aD Z<|aQ<|aU<|aB Z<|aB Z<|aB Z<|cQ h λE h=>aC (bI Z Z (aA.fact 0 Z) Z Z E) Z<|aC (cL Z (aA.fact 0 Z) Z Z Z fN E) Z<|cW Z<|aD Z<|fU<|lJ<|aU<|aB Z<|cW Z<|aD Z<|aQ ?_;exact vT (d,f,(min m (at' g e)),(max b.1 (at' g e)),(max b.2.1 (min b.1 (at' g e))),(wI .i64 (n+(at' g e))),(wI .i64 (e+(1:Int)))) () h SF Z
  refine fF ?_;exact gJ (a.1,a.2.1,m,b.1,b.2.1,n) () h SF Z
 intro o Q h;refine aN<|aX<|aB Z<|aQ<|aW<|aX<|cI Z<|aD Z<|aQ ?_;refine eJ h Z (λh=>?_) λh=>?_
 ·refine aX<|aB Z<|aB Z<|jM (aA.fact 0 Z) Z<|cI Z<|eO h λI M h=>aM (zBa qZ (gW U  I M) Z .nil) Z λS=>aD Z<|aQ<|aT<|bF<|aJ ?_;cases h;exact iJ Z
 refine aX<|cI Z<|aD Z<|aQ ?_;refine eJ h Z (λh=>?_) λh=>?_
 ·refine aX<|aB Z<|aC (sL Z Z) Z<|eO h λJ N h=>aM (zBa qZ (gW U  J N) Z .nil) Z λT=>aD Z<|aQ<|aT<|bF<|aJ ?_;cases h;exact iJ Z
 refine aX<|cI Z<|aD Z<|aQ ?_;refine eJ h Z (λh=>?_) λh=>?_
 ·refine aX<|aB Z<|aD Z<|aQ<|aT<|bF<|aJ ?_;cases h;exact iJ Z
 refine aX<|cI Z<|aD Z<|aQ ?_;refine eJ h Z (λh=>?_) λh=>?_
 ·refine aX<|aB Z<|aD Z<|aQ<|aT<|bF<|aJ ?_;cases h;exact iJ Z
 refine aX<|cI Z<|aD Z<|aQ ?_;refine eJ h Z (λh=>?_) λh=>?_
 ·refine aX<|aB Z<|aD Z<|aQ<|aT<|bF<|aJ ?_;cases h;exact iJ Z
 refine aX<|cI Z<|aD Z<|aQ ?_;refine eJ h Z (λh=>?_) λh=>?_
 ·refine aX<|aB Z<|aD Z<|aQ<|aT<|bF<|aJ ?_;cases h;exact iJ Z
 refine aX<|cI Z<|aD Z<|aQ ?_;refine eJ h Z (λh=>?_) λh=>?_
 ·refine aX<|aB Z<|eO h λK O h=>aM (zBa SA (DX U  K O) Z .nil) Z λV=>aD Z<|aQ<|aT<|bF<|aJ ?_;cases h;exact iJ Z
 refine aX<|cI Z<|aD Z<|aQ ?_;refine eJ h Z (λh=>?_) λh=>?_
 ·refine aX<|aB Z<|aD Z<|aQ<|aT<|bF<|aJ ?_;cases h;exact iJ Z
 refine aX<|cI Z<|aD Z<|aQ ?_;refine eJ h Z (λh=>?_) λh=>?_
 ·refine aX<|aD Z<|aQ<|aN<|eG (λi=>AV  i=some r) (λi t=>[(12,vI (i))]) (λi t=>[]) ?_ ?_
  ·refine aW<|fJ (wE U g) (λj u=>[(1,q),(12,vI (j))]) (λj u=>[]) (0:Int) () h SF (a_.refl _) ?_;intro R j u h;refine aN<|aX<|aB Z<|aB Z<|eO h λL P h=>aM (zBa Zj (Lt U q L P) Z (iD [0] Z)) Z λW=>aQ ?_;refine qS h Z (λ_ h=>?_) λ_ h=>?_
   ·refine cK<|aW<|aU<|aB Z<|cW Z<|aD Z<|fU<|lJ ?_;exact vT (wI .i64 (j+(1:Int))) () h SF Z
   refine fF ?_;exact gJ (j) () h SF Z
  intro i t h;unfold AV at h;refine aX<|aB Z<|aD Z<|aQ<|aT<|bF<|aJ ?_;cases h;exact iJ Z
 refine eC<|lJ<|aN<|aX<|aB Z<|jM (aA.fact 0 Z) Z<|cI Z<|aQ ?_;refine eJ h Z (λh=>?_) λh=>?_
 ·refine aX<|aD Z<|aQ<|aT<|aJ ?_;cases h;exact iJ Z
 refine cK<|aX<|aB Z<|cQ h λA h=>aC (bI Z Z (aA.fact 0 Z) Z Z A) Z<|aC (cL Z (aA.fact 0 Z) Z Z Z fN A) Z<|aD Z<|aQ<|aT ?_;cases h;exact iJ Z
def sA  (a:Bool):Option Bool:=
 some (a)
def nK (U:Nat) (a:Int):Option Bool:=
 if(-1073741824:Int)<=a then(sA  (decide (a<=(1073741824:Int))))else(sA  (false))
theorem JU:bD Tryz.prog 226:=Tryz.call226
theorem z_ (U:Nat) {b:Int} (r:Bool) (h:nK U b=some r):
  bG Tryz.prog 226 #[vI (b)] [] (λx:Unit=>vB (r)) (λx l=>l) (λ_ l=>l):=by
 refine bG.of Tryz.func226 Z Tryz.ntmps226 Z λc=>?_;refine aX<|aD Z<|aQ<|aN<|eG (λa=>sA  a=some r) (λa d=>[(2,vB (a))]) (λa d=>[]) ?_ ?_
 ·refine aU<|aB Z<|aC (tC Z Z) Z<|aB Z ?_;refine AL h Z (λ_ h=>?_) λ_ h=>?_
  ·refine dH Z<|aR Z (BM Z Z) Z<|dG Z<|aD Z<|aQ ?_;exact gJ (decide (b<=(1073741824:Int))) () h SF Z
  refine aK Z<|aK Z<|dR Z<|aD Z<|aQ ?_;exact gJ (false) () h SF Z
 intro a d h;unfold sA at h;refine aT ?_;cases h;exact iJ Z
def yY (U:Nat) (c:Int) (a:Int) (b:Bool):Option gH:=
 if b=true then(some ((0:Int),(2:Int)))else(if c=(18:Int)then(some ((wI .i64 (0 - a)),(0:Int)))else(Option.bind (fT U (decide (a=(0:Int)))) λd=>(some (d,(0:Int)))))
def GI (U:Nat) (a:Int) (b:Int):Option gH:=
 if a≠(18:Int)then(if a≠(19:Int)then(yY U a b (true))else(Option.bind (nK U b) λc=>(yY U a b ((!c)))))else(Option.bind (nK U b) λd=>(yY U a b ((!d))))
theorem Ze:bD Tryz.prog 204:=Tryz.call204
theorem L_ (U:Nat) {e:Int} {f:Int} (r:gC) (h:GI U e f=some r):
  bG Tryz.prog 204 #[vI (e),vI (f)] [] (λx:Unit=>Value.tuple #[vI (r.1),vI (r.2)]) (λx l=>l) (λ_ l=>l):=by
 refine bG.of Tryz.func204 Z Tryz.ntmps204 Z λc=>?_;refine aX<|aD Z<|aD Z<|aQ<|aN<|aN<|eG (λa=>yY U e f a=some r) (λa j=>[(0,vI (e)),(1,vI (f)),(16,vB (a))]) (λa j=>[]) ?_ ?_
 ·refine aU<|aB Z<|kA Z<|aB Z ?_;refine AL h Z (λ_ h=>?_) λ_ h=>?_
  ·refine dH Z<|aR Z (xQ Z Z) Z<|dG Z<|aB Z ?_;refine AL h Z (λ_ h=>?_) λ_ h=>?_
   ·refine aK Z<|aK Z<|aK Z<|dG Z<|aQ ?_;exact gJ (true) () h SF Z
   refine dH Z<|eO h λb g h=>lR Z (zBa JU (z_ U  b g) Z .nil) Z λn=>aR Z (iQ Z) Z<|dR Z<|aQ ?_;exact gJ ((!b)) () h SF Z
  refine aK Z<|aK Z<|dR Z<|aB Z<|dH Z<|eO h λd i h=>lR Z (zBa JU (z_ U  d i) Z .nil) Z λo=>aR Z (iQ Z) Z<|dR Z<|aQ ?_;exact gJ ((!d)) () h SF Z
 intro a j h;refine qS h Z (λ_ h=>?_) λ_ h=>?_
 ·refine aX<|aD Z<|aD Z<|aQ<|aT<|aJ ?_;cases h;exact hJ () Z Z (RV.tmp Z) (RV.tmp Z) (a_.refl _) aI.nil
 refine cK<|aN<|aX<|aB Z<|cI Z<|aQ ?_;refine eJ h Z (λh=>?_) λh=>?_
 ·refine aX<|aB Z<|aC (aaO Z) Z<|aD Z<|aD Z<|aQ<|aT<|aJ ?_;cases h;exact hJ () Z Z (RV.tmp Z) (RV.tmp Z) (a_.refl _) aI.nil
 refine cK<|aX<|aB Z<|cI Z<|eO h λk m h=>aM (zBa qZ (gW U  k m) Z .nil) Z λp=>aD Z<|aD Z<|aQ<|aT ?_;cases h;exact hJ () Z Z (RV.tmp Z) (RV.tmp Z) (a_.refl _) aI.nil
def sS  (a:Int):Option (Int):=
 some (a)
def zA (a:Int) (b:Int) (c:Bool):Option (Int):=
 if c=true then(sS  (wI .i64 ((wI .i64 (Int.tdiv a b)) - (1:Int))))else(sS  (wI .i64 (Int.tdiv a b)))
def Az (U:Nat) (b:Int) (a:Int):Option (Int):=
 if a=(0:Int)then(some (0:Int))else(ck (a≠0) (ck (a≠0) (if(Int.tmod b a)≠(0:Int)then(zA b a (((decide (b<(0:Int))) != (decide (a<(0:Int))))))else(zA b a (false)))))
theorem SC:bD Tryz.prog 254:=Tryz.call254
theorem DY (U:Nat) {a:Int} {b:Int} (r:Int) (h:Az U a b=some r):
  bG Tryz.prog 254 #[vI (a),vI (b)] [] (λx:Unit=>vI (r)) (λx l=>l) (λ_ l=>l):=by
 refine bG.of Tryz.func254 Z Tryz.ntmps254 Z λc=>?_;refine aX<|aD Z<|aQ<|aN<|aX<|aB Z<|cI Z<|aQ ?_;refine eJ h Z (λh=>?_) λh=>?_
 ·refine aX<|aD Z<|aQ<|aT<|aJ ?_;cases h;exact iJ Z
 refine cK<|aX<|aB Z<|aB Z<|cQ h λj h=>aC (VB Z Z j) Z<|aD Z<|aQ<|aN<|eG (λd=>sS  d=some r) (λd g=>[(5,vI (d))]) (λd g=>[]) ?_ ?_
 ·refine aN<|eG (λe=>zA a b e=some r) (λe i=>[(5,vI (wI .i64 (Int.tdiv a b))),(21,vB (e))]) (λe i=>[]) ?_ ?_
  ·refine aU<|aB Z<|aB Z<|cQ h λf h=>aC (Sg Z Z f) Z<|kA Z<|aB Z ?_;refine AL h Z (λ_ h=>?_) λ_ h=>?_
   ·refine dH Z<|aR Z (EO Z Z) Z<|dH Z<|aR Z (EO Z Z) Z<|aR Z (VA Z Z Z) Z<|dG Z<|aQ ?_;exact gJ (((decide (a<(0:Int))) != (decide (b<(0:Int))))) () h SF Z
   refine aK Z<|aK Z<|aK Z<|aK Z<|aK Z<|dR Z<|aQ ?_;exact gJ (false) () h SF Z
  intro e i h;refine qS h Z (λ_ h=>?_) λ_ h=>?_
  ·refine aU<|aB Z<|aC (oD Z Z) Z<|aD Z<|aQ ?_;exact gJ (wI .i64 ((wI .i64 (Int.tdiv a b)) - (1:Int))) () h SF Z
  refine cK ?_;exact gJ (wI .i64 (Int.tdiv a b)) () h SF Z
 intro d g h;unfold sS at h;refine aX<|aB Z<|aD Z<|aQ<|aT ?_;cases h;exact iJ Z
def yZ  (a:Int):Option (Int):=
 some (a)
def y_  (a:Int):Option (Int):=
 some (a)
def vZ (U:Nat) (c:Int) (b:Int) (a:Int):Option (Int):=
 if c=(30:Int)then(some (wI .i64 (b*a)))else(if c=(31:Int)then(Option.bind (Az U b a) λn=>(some (n)))else(if c=(32:Int)then(if a=(0:Int)then(some (0:Int))else(Option.bind (Az U b a) λo=>(some (wI .i64 (b - (wI .i64 (a*o)))))))else(if c=(33:Int)then(some (wI .i64 (b+a)))else(if c=(34:Int)then(some (wI .i64 (b - a)))else(if c=(35:Int)then(Option.bind (fT U (decide (b=a))) λd=>(some (d)))else(if c=(36:Int)then(Option.bind (fT U (decide (b≠a))) λe=>(some (e)))else(if c=(37:Int)then(Option.bind (fT U (decide (b<a))) λf=>(some (f)))else(if c=(38:Int)then(Option.bind (fT U (decide (b<=a))) λg=>(some (g)))else(if c=(39:Int)then(Option.bind (fT U (decide (a<b))) λh=>(some (h)))else(if c=(40:Int)then(Option.bind (fT U (decide (a<=b))) λi=>(some (i)))else(if c=(41:Int)then(if b≠(0:Int)then(Option.bind (fT U (decide (a≠(0:Int)))) λj=>(yZ  (j)))else(Option.bind (fT U false) λk=>(yZ  (k))))else(if b≠(0:Int)then(Option.bind (fT U true) λl=>(y_  (l)))else(Option.bind (fT U (decide (a≠(0:Int)))) λm=>(y_  (m)))))))))))))))
theorem Zk:bD Tryz.prog 227:=Tryz.call227
theorem Ma (U:Nat) {D:Int} {E:Int} {F:Int} (r:Int) (h:vZ U D E F=some r):
  bG Tryz.prog 227 #[vI (D),vI (E),vI (F)] [] (λx:Unit=>vI (r)) (λx l=>l) (λ_ l=>l):=by
 refine bG.of Tryz.func227 Z Tryz.ntmps227 Z λc=>?_;refine aX<|aD Z<|aQ<|aN<|aX<|aB Z<|aQ<|aW<|aX<|cI Z<|aD Z<|aQ ?_;refine eJ h Z (λh=>?_) λh=>?_
 ·refine aX<|aB Z<|aB Z<|aC (Fp Z Z) Z<|aD Z<|aQ<|aT<|bF<|aJ ?_;cases h;exact iJ Z
 refine aX<|cI Z<|aD Z<|aQ ?_;refine eJ h Z (λh=>?_) λh=>?_
 ·refine aX<|aB Z<|aB Z<|eO h λG I h=>aM (zBa SC (DY U  G I) Z .nil) Z λW=>aD Z<|aQ<|aT<|bF<|aJ ?_;cases h;exact iJ Z
 refine aX<|cI Z<|aD Z<|aQ ?_;refine eJ h Z (λh=>?_) λh=>?_
 ·refine aN<|aX<|aB Z<|cI Z<|aQ ?_;refine eJ h Z (λh=>?_) λh=>?_
  ·refine aX<|aD Z<|aQ<|aT<|aJ<|bF<|aJ ?_;cases h;exact iJ Z
  refine cK<|aX<|aB Z<|aB Z<|aB Z<|aB Z<|eO h λH J h=>aM (zBa SC (DY U  H J) Z .nil) Z λK=>aC (Fp Z Z) Z<|aC (oD Z Z) Z<|aD Z<|aQ<|aT<|bF<|aJ ?_;cases h;exact iJ Z
 refine aX<|cI Z<|aD Z<|aQ ?_;refine eJ h Z (λh=>?_) λh=>?_
 ·refine aX<|aB Z<|aB Z<|cW Z<|aD Z<|aQ<|aT<|bF<|aJ ?_;cases h;exact iJ Z
 refine aX<|cI Z<|aD Z<|aQ ?_;refine eJ h Z (λh=>?_) λh=>?_
 ·refine aX<|aB Z<|aB Z<|aC (oD Z Z) Z<|aD Z<|aQ<|aT<|bF<|aJ ?_;cases h;exact iJ Z
 refine aX<|cI Z<|aD Z<|aQ ?_;refine eJ h Z (λh=>?_) λh=>?_
 ·refine aX<|aB Z<|aB Z<|cI Z<|eO h λk s h=>aM (zBa qZ (gW U  k s) Z .nil) Z λL=>aD Z<|aQ<|aT<|bF<|aJ ?_;cases h;exact iJ Z
 refine aX<|cI Z<|aD Z<|aQ ?_;refine eJ h Z (λh=>?_) λh=>?_
 ·refine aX<|aB Z<|aB Z<|kA Z<|eO h λm t h=>aM (zBa qZ (gW U  m t) Z .nil) Z λM=>aD Z<|aQ<|aT<|bF<|aJ ?_;cases h;exact iJ Z
 refine aX<|cI Z<|aD Z<|aQ ?_;refine eJ h Z (λh=>?_) λh=>?_
 ·refine aX<|aB Z<|aB Z<|cX Z<|eO h λn u h=>aM (zBa qZ (gW U  n u) Z .nil) Z λN=>aD Z<|aQ<|aT<|bF<|aJ ?_;cases h;exact iJ Z
 refine aX<|cI Z<|aD Z<|aQ ?_;refine eJ h Z (λh=>?_) λh=>?_
 ·refine aX<|aB Z<|aB Z<|aC (BM Z Z) Z<|eO h λo v h=>aM (zBa qZ (gW U  o v) Z .nil) Z λO=>aD Z<|aQ<|aT<|bF<|aJ ?_;cases h;exact iJ Z
 refine aX<|cI Z<|aD Z<|aQ ?_;refine eJ h Z (λh=>?_) λh=>?_
 ·refine aX<|aB Z<|aB Z<|aC (sL Z Z) Z<|eO h λp w h=>aM (zBa qZ (gW U  p w) Z .nil) Z λP=>aD Z<|aQ<|aT<|bF<|aJ ?_;cases h;exact iJ Z
 refine aX<|cI Z<|aD Z<|aQ ?_;refine eJ h Z (λh=>?_) λh=>?_
 ·refine aX<|aB Z<|aB Z<|aC (tC Z Z) Z<|eO h λq y h=>aM (zBa qZ (gW U  q y) Z .nil) Z λQ=>aD Z<|aQ<|aT<|bF<|aJ ?_;cases h;exact iJ Z
 refine aX<|cI Z<|aD Z<|aQ ?_;refine eJ h Z (λh=>?_) λh=>?_
 ·refine aN<|eG (λa=>yZ  a=some r) (λa d=>[(6,vI (a))]) (λa d=>[]) ?_ ?_
  ·refine aU<|aB Z<|kA Z<|aB Z ?_;refine AL h Z (λ_ h=>?_) λ_ h=>?_
   ·refine dH Z<|aR Z (xQ Z Z) Z<|dG Z<|eO h λf z h=>aM (zBa qZ (gW U  f z) Z .nil) Z λR=>aD Z<|aQ ?_;exact gJ (f) () h SF Z
   refine aK Z<|aK Z<|dR Z<|eO h λg A h=>aM (zBa qZ (gW U  g A) Z .nil) Z λS=>aD Z<|aQ ?_;exact gJ (g) () h SF Z
  intro a d h;unfold yZ at h;refine aT<|bF<|aJ ?_;cases h;exact iJ Z
 refine eC<|lJ<|aN<|eG (λb=>y_  b=some r) (λb e=>[(6,vI (b))]) (λb e=>[]) ?_ ?_
 ·refine aU<|aB Z<|kA Z<|aB Z ?_;refine AL h Z (λ_ h=>?_) λ_ h=>?_
  ·refine aK Z<|aK Z<|dG Z<|eO h λi B h=>aM (zBa qZ (gW U  i B) Z .nil) Z λT=>aD Z<|aQ ?_;exact gJ (i) () h SF Z
  refine dH Z<|aR Z (xQ Z Z) Z<|dR Z<|eO h λj C h=>aM (zBa qZ (gW U  j C) Z .nil) Z λV=>aD Z<|aQ ?_;exact gJ (j) () h SF Z
 intro b e h;unfold y_ at h;refine aT ?_;cases h;exact iJ Z
def oJ (U:Nat) (b:Int) (c:Int) (d:Int) (a:Bool):Option gH:=
 if a=true then(some ((0:Int),(2:Int)))else(Option.bind (vZ U b c d) λe=>(Option.bind (nA U e) λf=>(some (f,(0:Int)))))
def CC (U:Nat) (a:Int) (b:Int) (c:Int):Option gH:=
 if a<(30:Int)then(oJ U a b c (true))else(if(42:Int)<a then(oJ U a b c (true))else(Option.bind (nK U b) λd=>(if(!d)=true then(oJ U a b c (true))else(Option.bind (nK U c) λe=>(oJ U a b c ((!e)))))))
theorem Zf:bD Tryz.prog 205:=Tryz.call205
theorem Ls (U:Nat) {e:Int} {f:Int} {g:Int} (r:gC) (h:CC U e f g=some r):
  bG Tryz.prog 205 #[vI (e),vI (f),vI (g)] [] (λx:Unit=>Value.tuple #[vI (r.1),vI (r.2)]) (λx l=>l) (λ_ l=>l):=by
 refine bG.of Tryz.func205 Z Tryz.ntmps205 Z λc=>?_;refine aX<|aD Z<|aD Z<|aQ<|aN<|aN<|eG (λb=>oJ U e f g b=some r) (λb m=>[(0,vI (e)),(1,vI (f)),(2,vI (g)),(23,vB (b))]) (λb m=>[]) ?_ ?_
 ·refine aU<|aB Z<|cX Z<|aB Z ?_;refine AL h Z (λ_ h=>?_) λ_ h=>?_
  ·refine aK Z<|aK Z<|dG Z<|aB Z<|aK Z<|aK Z<|aK Z<|dG Z<|aB Z<|aK Z<|aK Z<|aK Z<|dG Z<|aQ ?_;exact gJ (true) () h SF Z
  refine dH Z<|aR Z (sL Z Z) Z<|dR Z<|aB Z ?_;refine AL h Z (λ_ h=>?_) λ_ h=>?_
  ·refine aK Z<|aK Z<|aK Z<|dG Z<|aB Z<|aK Z<|aK Z<|aK Z<|dG Z<|aQ ?_;exact gJ (true) () h SF Z
  refine dH Z<|eO h λi j h=>lR Z (zBa JU (z_ U  i j) Z .nil) Z λt=>aR Z (iQ Z) Z<|dR Z<|aB Z ?_;refine qV (by exact rfl) (by exact rfl) (λa=>?_) (λa=>?_)
  ·have h:=Ff a h;refine aK Z<|aK Z<|aK Z<|dG Z<|aQ ?_;exact gJ (true) () h SF Z
  have h:=Cr a h;refine dH Z<|eO h λd k h=>lR Z (zBa JU (z_ U  d k) Z .nil) Z λu=>aR Z (iQ Z) Z<|dR Z<|aQ ?_;exact gJ ((!d)) () h SF Z
 intro b m h;refine qS h Z (λ_ h=>?_) λ_ h=>?_
 ·refine aX<|aD Z<|aD Z<|aQ<|aT<|aJ ?_;cases h;exact hJ () Z Z (RV.tmp Z) (RV.tmp Z) (a_.refl _) aI.nil
 refine cK<|aX<|aB Z<|aB Z<|aB Z<|eO h λn p h=>aM (zBa Zk (Ma U  n p) Z .nil) Z λv=>eO h λo q h=>aM (zBa SA (DX U  o q) Z .nil) Z λs=>aD Z<|aD Z<|aQ<|aT ?_;cases h;exact hJ () Z Z (RV.tmp Z) (RV.tmp Z) (a_.refl _) aI.nil
def Ez  (a:Unit):Option (Int):=
 some (-1:Int)
def Ic (U:Nat) (d:fP) (a:gC) (c:gH->Option (Int)):Option (Int):=
 if a.2<(d.length:Int)then(ck (0<=a.2∧a.2<(d.length:Int)) (Option.bind (lV U ((at' d a.2).1)) λb=>(if b<(0:Int)then(some (-1:Int))else(if(wI .i64 (a.1+(wI .i64 (b - (1:Int)))))=(0:Int)then(some (wI .i64 (a.2+(1:Int))))else(c ((wI .i64 (a.1+(wI .i64 (b - (1:Int))))),(wI .i64 (a.2+(1:Int)))))))))else(Ez  (()))
def Ey (U:Nat) (b:fP) (c:Int) (a:Bool):Option (Int):=
 if a=true then(some (-1:Int))else(bP (Ic U b) U ((1:Int),c))
def FC (U:Nat) (b:fP) (a:Int):Option (Int):=
 if a<(0:Int)then(Ey U b a (true))else(Ey U b a (decide ((b.length:Int)<=a)))
theorem SB:bD Tryz.prog 228:=Tryz.call228
theorem JC (U:Nat) {g:fP} {b:Int} (k:Value) (r:Int) (h:FC U g b=some r):
  bG Tryz.prog 228 #[k,vI (b)] [Sl bA k g] (λx:Unit=>vI (r)) (λx l=>l) (λ_ l=>l):=by
 refine bG.of Tryz.func228 Z Tryz.ntmps228 Z λc=>?_;refine aX<|aD Z<|aQ<|aN<|aN<|eG (λd=>Ey U g b d=some r) (λd n=>[(0,k),(1,vI (b)),(15,vB (d))]) (λd n=>[]) ?_ ?_
 ·refine aU<|aB Z<|cX Z<|aB Z ?_;refine AL h Z (λ_ h=>?_) λ_ h=>?_
  ·refine aK Z<|aK Z<|aK Z<|aK Z<|dG Z<|aQ ?_;exact gJ (true) () h SF Z
  refine dH Z<|dH Z<|aR Z (fG Z (aA.fact 0 Z) Z) Z<|aR Z (tC Z Z) Z<|dR Z<|aQ ?_;exact gJ (decide ((g.length:Int)<=b)) () h SF Z
 intro d n h;refine qS h Z (λ_ h=>?_) λ_ h=>?_
 ·refine aX<|aD Z<|aQ<|aT<|aJ ?_;cases h;exact iJ Z
 refine cK<|aX<|aD Z<|aQ<|aN<|eG (λj=>Ez  j=some r) (λj o=>[]) (λj o=>[]) ?_ ?_
 ·refine aX<|aB Z<|aD Z<|aQ<|aW<|fJ (Ic U g) (λa e=>[(0,k),(5,vI (a.1)),(6,vI (a.2))]) (λa e=>[]) ((1:Int),b) () h SF (a_.refl _) ?_;intro p a e h;refine aN<|aX<|aB Z<|aB Z<|jM (aA.fact 0 Z) Z<|cX Z<|aQ ?_;refine eJ h Z (λh=>?_) λh=>?_
  ·refine cK<|aN<|aW<|aX<|aB Z<|aB Z<|cQ h λf h=>aC (bI Z Z (aA.fact 0 Z) Z Z f) Z<|aC (dX Z Z Z Z Z) Z<|aC (fI Z (aA.fact 0 Z) Z Z Z gU f) Z<|eO h λi m h=>aM (zBa NF (Dt U  i m) Z .nil) Z λq=>aD Z<|aQ<|aN<|aX<|aB Z<|cX Z<|aQ ?_;refine eJ h Z (λh=>?_) λh=>?_
   ·refine aX<|aD Z<|aQ<|aT<|aJ<|bF<|aJ<|aJ<|bF<|aJ ?_;cases h;exact iJ Z
   refine cK<|aX<|aB Z<|aB Z<|aC (oD Z Z) Z<|cW Z<|aD Z<|aQ<|aX<|aB Z<|cI Z<|aQ ?_;refine eJ h Z (λh=>?_) λh=>?_
   ·refine aX<|aB Z<|cW Z<|aD Z<|aQ<|aT<|bF<|aJ<|aJ<|bF<|aJ ?_;cases h;exact iJ Z
   refine eC<|lJ<|aU<|aB Z<|cW Z<|aD Z<|aQ ?_;exact vT ((wI .i64 (a.1+(wI .i64 (i - (1:Int))))),(wI .i64 (a.2+(1:Int)))) () h SF Z
  refine fF ?_;exact gJ () (()) h SF Z
 intro j o h;unfold Ez at h;refine aX<|aD Z<|aQ<|aT ?_;cases h;exact iJ Z
def AB  (a:Int):Option (Int):=
 some (a)
def DV (U:Nat) (d:fP) (e:Int) (a:gC) (b:gH->Option (Int)):Option (Int):=
 if a.2<e then(Option.bind (FC U d a.1) λc=>(b (c,(wI .i64 (a.2+(1:Int))))))else(AB  (a.1))
def uW (U:Nat) (b:fP) (c:Int) (d:Int) (a:Bool):Option (Int):=
 if a=true then(some (-1:Int))else(bP (DV U b d) U ((wI .i64 (c+(1:Int))),(0:Int)))
def rW (U:Nat) (b:fP) (a:Int) (c:Int):Option (Int):=
 Option.bind (FC U b a) λd=>(if d<(0:Int)then(uW U b a c (true))else(if c<(0:Int)then(uW U b a c (true))else(ck (0<=a∧a<(b.length:Int)) (Option.bind (lV U ((at' b a).1)) λe=>(uW U b a c (decide (e<=c)))))))
theorem NG:bD Tryz.prog 206:=Tryz.call206
theorem BH (U:Nat) {n:fP} {j:Int} {b:Int} (d:Value) (r:Int) (h:rW U n j b=some r):
  bG Tryz.prog 206 #[d,vI (j),vI (b)] [Sl bA d n] (λx:Unit=>vI (r)) (λx l=>l) (λ_ l=>l):=by
 refine bG.of Tryz.func206 Z Tryz.ntmps206 Z λc=>?_;refine aX<|aD Z<|aQ<|aN<|aN<|eG (λe=>uW U n j b e=some r) (λe t=>[(0,d),(1,vI (j)),(2,vI (b)),(26,vB (e))]) (λe t=>[]) ?_ ?_
 ·refine aU<|aB Z<|aB Z<|eO h λo q h=>aM (zBa SB (JC U d o q) Z (iD [0] Z)) Z λy=>cX Z<|aB Z ?_;refine AL h Z (λ_ h=>?_) λ_ h=>?_
  ·refine aK Z<|aK Z<|dG Z<|aB Z<|aK Z<|aK Z<|aK Z<|aK Z<|aK Z<|aK Z<|aK Z<|aK Z<|dG Z<|aQ ?_;exact gJ (true) () h SF Z
  refine dH Z<|aR Z (EO Z Z) Z<|dR Z<|aB Z ?_;refine AL h Z (λ_ h=>?_) λ_ h=>?_
  ·refine aK Z<|aK Z<|aK Z<|aK Z<|aK Z<|aK Z<|aK Z<|aK Z<|dG Z<|aQ ?_;exact gJ (true) () h SF Z
  refine dH Z<|dH Z<|dH Z<|cQ h λi h=>aR Z (bI Z Z (aA.fact 0 Z) Z Z i) Z<|aR Z (dX Z Z Z Z Z) Z<|aR Z (fI Z (aA.fact 0 Z) Z Z Z gU i) Z<|eO h λm s h=>lR Z (zBa NF (Dt U  m s) Z .nil) Z λz=>aR Z (tC Z Z) Z<|dR Z<|aQ ?_;exact gJ (decide (m<=b)) () h SF Z
 intro e t h;refine qS h Z (λ_ h=>?_) λ_ h=>?_
 ·refine aX<|aD Z<|aQ<|aT<|aJ ?_;cases h;exact iJ Z
 refine cK<|aX<|aB Z<|cW Z<|aD Z<|aQ<|aN<|eG (λf=>AB  f=some r) (λf u=>[(7,vI (f))]) (λf u=>[]) ?_ ?_
 ·refine aX<|aD Z<|aQ<|aW<|fJ (DV U n b) (λa g=>[(0,d),(2,vI (b)),(7,vI (a.1)),(8,vI (a.2))]) (λa g=>[]) ((wI .i64 (j+(1:Int))),(0:Int)) () h SF (a_.refl _) ?_;intro v a g h;refine aN<|aX<|aB Z<|aB Z<|cX Z<|aQ ?_;refine eJ h Z (λh=>?_) λh=>?_
  ·refine cK<|aN<|aW<|aU<|aB Z<|aB Z<|eO h λk p h=>aM (zBa SB (JC U d k p) Z (iD [0] Z)) Z λw=>aD Z<|fU<|lJ<|aU<|aB Z<|cW Z<|aD Z<|aQ ?_;exact vT (k,(wI .i64 (a.2+(1:Int)))) () h SF Z
  refine fF ?_;exact gJ (a.1) () h SF Z
 intro f u h;unfold AB at h;refine aX<|aB Z<|aD Z<|aQ<|aT ?_;cases h;exact iJ Z
def FG (U:Nat) (c:fP) (d:Int) (a:cC):Option (Int):=
 Option.bind (oW U ((at' c d).1) a) λb=>(some (b))
def Bv (U:Nat) (d:cS) (h:bV) (e:Int) (f:fP) (g:Int) (i:CO->bV->Int->Int->fP->Int->Option (Int)) (a:cC×Int) (b:(cC×Int)->Option (Int)):Option (Int):=
 ck (0<=e∧e<(d.2.length:Int)) (if a.2<((at' d.2 e).length:Int)then(Option.bind (i ((d.1,d.2)) h e a.2 f (wI .i64 (g+(1:Int)))) λc=>(ck ((a.1.length:Int)+(List.length ([c]):Int)<=1099511627) (b ((a.1++[c]),(wI .i64 (a.2+(1:Int)))))))else(FG U f g (a.1)))
def pF (g:CO->bV->Int->Int->fP->Int->Option (Int)) (U:Nat) (c:cS) (d:bV) (e:Int) (f:Int) (a:fP) (b:Int):Option (Int):=
 ck (0<=b∧b<(a.length:Int)) (Option.bind (lV U ((at' a b).1)) λi=>(if i=(0:Int)then(ck (0<=b∧b<(a.length:Int)) (Option.bind (BZ U ((c.1,c.2)) d e f ((((at' a b).1),((at' a b).2)))) λu=>(some (u))))else(if i=(1:Int)then(Option.bind (yN U ((at' a b).1)) λh=>(if h=true then(bP (Bv U c d e a b g) U (([]:cC),(0:Int)))else(Option.bind (g ((c.1,c.2)) d e f a (wI .i64 (b+(1:Int)))) λj=>(Option.bind (GI U ((at' a b).1) j) λk=>(some (k.1))))))else(if i=(2:Int)then(Option.bind (g ((c.1,c.2)) d e f a (wI .i64 (b+(1:Int)))) λl=>(Option.bind (rW U a b (1:Int)) λm=>(Option.bind (g ((c.1,c.2)) d e f a m) λn=>(Option.bind (CC U ((at' a b).1) l n) λo=>(some (o.1))))))else(Option.bind (g ((c.1,c.2)) d e f a (wI .i64 (b+(1:Int)))) λp=>(if p≠(0:Int)then(Option.bind (rW U a b (1:Int)) λq=>(Option.bind (g ((c.1,c.2)) d e f a q) λr=>(some (r))))else(Option.bind (rW U a b (2:Int)) λs=>(Option.bind (g ((c.1,c.2)) d e f a s) λt=>(some (t))))))))))
def fK:Nat->CO->bV->Int->Int->fP->Int->Option (Int)
 |0,_,_,_,_,_,_=>none
 |U+1,p0,p1,p2,p3,p4,p5=>pF (fK U) U p0 p1 p2 p3 p4 p5
theorem BW:bD Tryz.prog 167:=Tryz.call167
theorem Ot (Q:CO->bV->Int->Int->fP->Int->Option (Int)) (U:Nat) (d:∀{u:cS} {y:bV} {v:Int} {A:Int} {t:fP} {q:Int} (f:Value)  (g:Value)  (o:kY)  (i:Value)  (p:mR)  (a:Value) (r:Int),Q u y v A t q=some r->bG Tryz.prog 167 #[Value.agg #[f,g],i,vI (v),vI (A),a,vI (q)] [Sl aP f u.1,S2 bA g o u.2,S2 aP i p y,Sl bA a t] (λx:Unit=>vI (r)) (λx l=>l) (λ_ l=>l)) {u:cS} {y:bV} {v:Int} {A:Int} {t:fP} {q:Int} (f:Value)  (g:Value)  (o:kY)  (i:Value)  (p:mR)  (a:Value) (r:Int) (h:pF Q U u y v A t q=some r):
  bG Tryz.prog 167 #[Value.agg #[f,g],i,vI (v),vI (A),a,vI (q)] [Sl aP f u.1,S2 bA g o u.2,S2 aP i p y,Sl bA a t] (λx:Unit=>vI (r)) (λx l=>l) (λ_ l=>l):=by
 let w:=vI ((at' t q).1);refine bG.of Tryz.func167 Z Tryz.ntmps167 Z λc=>?_;refine aX<|aM (aS.box (cs:=[f,g]) Z Z) Z λb1=>aD Z<|aQ<|aX<|aB Z<|aB Z<|cQ h λj2 h=>aC (bI Z Z (aA.fact 3 Z) Z Z j2) Z<|aC (dX Z Z Z Z Z) Z<|aC (fI Z (aA.fact 3 Z) Z Z Z gU j2) Z<|aD Z<|aQ<|aN<|aX<|aB Z<|eO h λr3 w4 h=>aM (zBa NF (Dt U  r3 w4) Z .nil) Z λx5=>aQ<|aW<|aX<|cI Z<|aD Z<|aQ ?_;refine eJ h Z (λh=>?_) λh=>?_
 ·refine aN ?_;refine JR.start [0,0,0,0,0,0,48,112,255,511] 8 mixedOrders (by decide +kernel) ?_;refine zBc (by exact rfl) ?_;refine iR 0 Z<|aV Z<|aV Z<|aV Z<|aV Z<|aV Z<|cQ h λj7 h=>bE Z .nil (fW 3 Z) (bI Z Z (aA.fact 0 Z) Z Z j7) aO.z<|bE Z .nil (fW 3 Z) (gM (cs:=[w,vI ((at' t q).2)]) Z (aA.fact 0 Z) cF Z Z Z Z j7) aO.z<|bM 8 Z Z<|eO h λr8 w9 h=>aM (zBa Zb (Ow U f g o i p r8 w9) Z (iD [0,1,2] Z)) Z λaq=>aD Z<|aQ<|aT<|bF<|aJ ?_;cases h;exact lY Z
 refine aX<|cI Z<|aD Z<|aQ ?_;refine eJ h Z (λh=>?_) λh=>?_
 ·refine aN<|aX<|aB Z<|eO h λD S h=>aM (zBa Zc (Iq U  D S) Z .nil) Z λar=>aQ ?_;refine qS h Z (λ_ h=>?_) λ_ h=>?_
  ·refine aX<|aD Z<|aQ<|aN<|LS (B:=Value) (λj=>FG U t q j=some r) (λj k=>[(13,w),(14,k)]) (λj k=>[Ar iF k j]) ?_ ?_
   ·refine aX<|aD Z<|aQ<|aW<|cD (iM iF)<|fJ (B:=Value) (Bv U u y v t q Q) (λb m=>[(1,i),(2,vI (v)),(4,a),(5,vI (q)),(6,vP b1),(13,w),(14,m),(15,vI (b.2))]) (λb m=>[bO b1 [f,g] 31,Ar iF m b.1]) (([]:cC),(0:Int)) (cY) h SF (a_.ix [1,0] Z Z) ?_;intro ao b m h;refine aN<|aX<|aB Z<|bX Z<|dU 0 Z<|aB Z<|cQ h λs h=>aC (bH Z Z (aA.fact 1 Z) Z Z s) Z<|aC (bS Z (aA.fact 1 Z) Z Z s) Z<|aC (fG Z (zBb (aA.fact 1 Z) s.1 s.2) Z) Z<|cX Z<|aQ ?_;refine eJ h Z (λh=>?_) λh=>?_
    ·refine cK<|aN<|aW<|aU<|aB Z<|cM 0 Z<|aB Z<|aB Z<|aB Z<|aB Z<|aB Z<|cW Z<|eO h λn V h=>aM (zBa BW (d f g o i p a n V) Z (iD [0,1,2,3] Z)) Z λav=>aM (dK (e:=iF) ([n]) [(0,vI (n))] Z Z Z Z (rT (vI (n)) Z) Z Z Z) Z λap=>cQ h λC h=>aM (jZ 2 iH Z Z Z (dM (aA.res 0 Z) iH) Z Z Z Z C Z) Z λR=>aD Z<|fU<|lJ<|aU<|aB Z<|cW Z<|aD Z<|aQ ?_;exact kG ((b.1++[n]),(wI .i64 (b.2+(1:Int)))) (R) h SF (a_.ix [1,2] Z Z) (aI.refl _ _)
    refine fF ?_;exact cE (b.1) (m) h SF (a_.ix [1] Z Z) (aI.refl _ _)
   intro j k h;refine aX<|aB Z<|aB Z<|eO h λE T h=>aM (zBa Zd (Ov U k E T) Z (aI.cons (dM (aA.res 0 Z) iH) .nil)) Z λau=>aD Z<|aQ<|aT<|aJ<|bF<|aJ ?_;cases h;exact lY Z
  refine cK<|aX<|aB Z<|cM 0 Z<|aB Z<|aB Z<|aB Z<|aB Z<|aB Z<|cW Z<|eO h λF W h=>aM (zBa BW (d f g o i p a F W) Z (iD [0,1,2,3] Z)) Z λaw=>eO h λG X h=>aM (zBa Ze (L_ U  G X) Z .nil) Z λax=>aB Z<|iG Z<|iG Z<|aD Z<|aD Z<|aQ<|aX<|aB Z<|aD Z<|aQ<|aT<|bF<|aJ ?_;cases h;exact lY Z
 refine aX<|cI Z<|aD Z<|aQ ?_;refine eJ h Z (λh=>?_) λh=>?_
 ·refine aN ?_;refine JR.start [0,0,0,0,0,0,0,64,254,0,0,0,0,0,0,0,49662,131070,262143,524287,1048575,1048575,2097151,8388607] 23 mixedOrders (by decide +kernel) ?_;refine zBc (by exact rfl) ?_;refine aV Z<|iR 0 Z<|aV Z<|aV Z<|aV Z<|aV Z<|aV Z<|e_ Z (Fl Z Z)<|eO h λH Y h=>zBd Z Z Z (zBa BW (d f g o i p a H Y) Z (iD [0,1,2,3] Z)) Z (λai=>(pB [] Z)) λai=>bE Z (a_.cons 0 Z .nil) .nil (cZ 0 Z Z Z Z) (aO.h (a_.ix [0] Z Z) .nil aO.z)<|e_ Z (dZ Z)<|e_ Z (dZ Z)<|e_ Z (dZ Z)<|e_ Z (dZ Z)<|e_ Z (dZ Z)<|e_ Z (dZ Z)<|eO h λI aa h=>zBd Z Z Z (zBa NG (BH U a I aa) Z (iD [3] Z)) Z (λaj=>(pB [([0],[])] Z)) λaj=>eO h λJ ab h=>zBd Z Z Z (zBa BW (d f g o i p a J ab) Z (iD [0,1,2,3] Z)) Z (λak=>(pB [] Z)) λak=>eO h λK ac h=>zBd Z Z Z (zBa Zf (Ls U  K ac) Z .nil) Z (λal=>(pB [] Z)) λal=>e_ Z (dZ Z)<|e_ Z (uK Z Z)<|e_ Z (uK Z Z)<|e_ Z (Cm Z)<|bM 23 Z Z<|aD Z<|aQ<|aX<|aB Z<|aD Z<|aQ<|aT<|bF<|aJ ?_;cases h;exact lY Z
 refine eC<|lJ<|aN<|aX<|cM 0 Z<|aB Z<|aB Z<|aB Z<|aB Z<|aB Z<|cW Z<|eO h λL ad h=>aM (zBa BW (d f g o i p a L ad) Z (iD [0,1,2,3] Z)) Z λay=>kA Z<|aQ ?_;refine eJ h Z (λh=>?_) λh=>?_
 ·refine aN ?_;refine JR.start [0,0,0,0,0,0,0,96,255,511] 8 mixedOrders (by decide +kernel) ?_;refine zBc (by exact rfl) ?_;refine iR 0 Z<|aV Z<|aV Z<|aV Z<|aV Z<|aV Z<|aV Z<|eO h λM ae h=>zBd Z Z Z (zBa NG (BH U a M ae) Z (iD [3] Z)) Z (λam=>(pB [([0],[])] Z)) λam=>bM 8 Z Z<|eO h λN af h=>aM (zBa BW (d f g o i p a N af) Z (iD [0,1,2,3] Z)) Z λaz=>aD Z<|aQ<|aT<|aJ ?_;cases h;exact lY Z
 refine cK<|aN ?_;refine JR.start [0,0,0,0,0,0,0,96,255,511] 8 mixedOrders (by decide +kernel) ?_;refine zBc (by exact rfl) ?_;refine iR 0 Z<|aV Z<|aV Z<|aV Z<|aV Z<|aV Z<|aV Z<|eO h λO ag h=>zBd Z Z Z (zBa NG (BH U a O ag) Z (iD [3] Z)) Z (λan=>(pB [([0],[])] Z)) λan=>bM 8 Z Z<|eO h λP ah h=>aM (zBa BW (d f g o i p a P ah) Z (iD [0,1,2,3] Z)) Z λaE=>aD Z<|aQ<|aT ?_;cases h;exact lY Z
theorem Lr (U:Nat):∀{e:cS} {i:bV} {j:Int} {k:Int} {m:fP} {n:Int} (a:Value)  (b:Value)  (f:kY)  (c:Value)  (g:mR)  (d:Value) (r:Int),fK U e i j k m n=some r->
  bG Tryz.prog 167 #[Value.agg #[a,b],c,vI (j),vI (k),d,vI (n)] [Sl aP a e.1,S2 bA b f e.2,S2 aP c g i,Sl bA d m] (λx:Unit=>vI (r)) (λx l=>l) (λ_ l=>l):=by
 induction U with
 |zero=>intros;rename_i h;cases h
 |succ U o=>exact λa b f c g d r h=>Ot (fK U) U o a b f c g d r h
end Go.Proofs.YtflciafboapaaaaGreat
namespace Go.Proofs.YtflciafboapaaaaGreat
open Go Go.Sx
def QC (x:Int):Prop:= -1073741824<=x∧x<=1073741824
theorem Ti (f:Nat) {x:Int} (h:QC x):nK f x=some true:=by
 unfold nK sA;rw[if_pos h.1,zA4 h.2]
theorem XS (f:Nat) (b:Bool):fT f b=some (Uc b):=by cases b<;>rfl
theorem YH (b:Bool):QC (Uc b):=by cases b<;>exact⟨by decide,by decide⟩
theorem Tk (f:Nat) (l:cC) (x:Int) (h:l.length<f) (m:l.length<=1000):tO f l x=some (decide (x∈l)):=by
 unfold tO;have a:=Rm (step:=oK l x) (K:=some false) (bad:=some true) l.length (λk=>at' l (k:Int)≠x) (λk=>(k:Int)) (λk g b d=>by
  unfold oK;rw[if_pos (by omega),cO (by omega),if_neg d,dJ (by omega)]) (λk g b d=>by
  unfold oK;rw[if_pos (by omega),cO (by omega),if_pos (zAw.1 d)]) (λg=>by
  unfold oK xA;rw[if_neg (by omega)]) f h
 by_cases c:x∈l
 ·rw[zA4 c];refine a.2 λq=> ?_;obtain⟨i,j,e⟩:=List.mem_iff_getElem.1 c;exact q i j (by rw[jU j,e])
 ·rw[zA3 c];refine a.1 λk b e=>c ?_;rw[<-e,jU b];exact List.getElem_mem b
abbrev F7:=Qc
def Tf (l:cC) (s:F7):F7:=
 (if at' l s.2.2.2.2.2.2≠0 then wI .i64 (s.1+1)else s.1,(if at' l s.2.2.2.2.2.2≠0∧s.2.1<0 then s.2.2.2.2.2.2 else s.2.1),min s.2.2.1 (at' l s.2.2.2.2.2.2),max s.2.2.2.1 (at' l s.2.2.2.2.2.2),max s.2.2.2.2.1 (min s.2.2.2.1 (at' l s.2.2.2.2.2.2)),wI .i64 (s.2.2.2.2.2.1+at' l s.2.2.2.2.2.2),wI .i64 (s.2.2.2.2.2.2+1))
def Tv (l:cC):Nat->F7
 |0=>(0,-1,1073741824,-1073741824,-1073741824,0,0)
 |k+1=>Tf l (Tv l k)
theorem RJ (l:cC):∀k,k<=l.length->l.length<=1000->(Tv l k).1=(((l.take k).countP nz:Nat):Int)∧(Tv l k).2.2.2.2.2.2=(k:Int)
 |0,_,_=>⟨by simp[Tv],rfl⟩
 |k+1,hk,hl=>by
  obtain⟨b,c⟩:=RJ l k (by omega) hl;have d:(l.take k).countP nz<=k:=zB2 List.countP_le_length (by simp;omega);unfold Tv Tf;dsimp only;rw[c,b,oL (by omega),List.countP_append,dJ (by omega),dJ (by omega)];refine⟨?_,rfl⟩
  by_cases a:at' l (k:Int)=0
  ·rw[if_neg (by simpa using a)];simp[nz,a]
  ·rw[if_pos a];simp[nz,a]
theorem Up (f:Nat) (o:Int) (l:cC) (h:l.length<f) (d:l.length<=1000):oW f o l=sF f o l (((l.countP nz:Nat):Int),(Tv l l.length).2.1,(Tv l l.length).2.2.1,(Tv l l.length).2.2.2.1,(Tv l l.length).2.2.2.2.1,(Tv l l.length).2.2.2.2.2.1):=by
 unfold oW;refine dO (step:=mY f o l) l.length (Tv l) (λk g n=> ?_) (λg=> ?_) f h
 ·have c:=(RJ l k (by omega) d).2;generalize i:Tv l k=s at c;obtain⟨p,j,r,t,u,v,m⟩:=s;have c:m=(k:Int):=c;subst c;have e:Tv l (k+1)=Tf l (Tv l k):=rfl;rw[e,i];unfold mY AW AY AX Tf;dsimp only;rw[if_pos (by omega)];simp only[cO (show 0<=(k:Int)∧(k:Int)<(l.length:Int) by omega)];by_cases a:at' l (k:Int)=0
  ·rw[if_neg (by simpa using a),if_neg (by simpa using a),if_neg (by decide),if_neg (by simpa using a),if_neg (by simp[a])]
  ·rw[if_pos a,if_pos a,if_pos a];by_cases b:j<0
   ·rw[zA4 b,if_pos Z,if_pos ⟨a,b⟩]
   ·rw[zA3 b,if_neg (by decide),if_neg (λq=>b q.2)]
 ·obtain⟨b,c⟩:=RJ l l.length (zAg _) d;rw[zB4]at b;unfold mY;rw[c,if_neg (by omega),b]
theorem MG (f:Nat) (o:Int) (l:cC) (h:l.length<f) (b:l.length<=1000):∃a,oW f o l=sF f o l (((l.countP nz:Nat):Int),a):=⟨_,Up f o l h b⟩
theorem ZJ (f:Nat) (l:cC) (h:l.length<f) (b:l.length<=1000):oW f 21 l=some (KR 21 l):=by
 obtain⟨a,e⟩:=MG f 21 l h b;rw[e];unfold sF;dsimp only;rw[if_neg (by decide),if_pos Z,bN (XS f _),KR,if_neg (by decide),if_pos Z];have:(decide ((0:Int)<((l.countP nz:Nat):Int)))=l.any nz:=by
  rw[Bool.eq_iff_iff,zAb,List.any_eq_true,show((0:Int)<((l.countP nz:Nat):Int))↔0<l.countP nz by omega,List.countP_pos_iff]
 rw[this]
theorem ZK (f:Nat) (l:cC) (h:l.length+2<f) (hl:l.length<=900):oW f 27 l=some ((LR l:Nat):Int):=by
 obtain⟨a,e⟩:=MG f 27 l (by omega) (by omega);obtain⟨h1,h2,h3⟩:=Pz l;rw[e];unfold sF;dsimp only;rw[if_neg (by decide),if_neg (by decide),if_neg (by decide),if_neg (by decide),if_neg (by decide),if_neg (by decide),if_neg (by decide),if_neg (by decide),if_pos Z];exact dO (step:=wE f l) (K:=some ((LR l:Nat):Int)) (LR l) (λk=>(k:Int)) (λk ag hk=>by
  unfold wE;rw[bN (Tk f l (k:Int) (by omega) (by omega)),if_pos (by simpa using h2 k hk),dJ (by omega)]) (λag=>by
  unfold wE AV;rw[bN (Tk f l _ (by omega) (by omega)),if_neg (by simpa using h1)]) f (by omega)
section
variable {g:GR} {c:List (List Int)} {v nv f:Nat} {T:List (Int×Int)} {k k1 j:Int} {p:Int}
theorem adU (l:VG g) (d:HL g nv c) (r:v<g.2.length) {q a:Nat} (o:q<(row g v).length) (s:a<nv) (n:at' T k=(12,(a:Int))) (b:0<=k∧k<(T.length:Int)):fK (f+1) g c (v:Int) (q:Int) T k=some (at' (at' c (jL (row g v) q).1) (a:Int)):=by
 obtain⟨u,h,i⟩:=l.to r o;have t:=d.row u h;have m:=d.len;have e:(at' (at' g.2 (v:Int)) (q:Int)).1=(u:Int):=i;show pF (fK f) f g c (v:Int) (q:Int) T k=_;unfold pF;rw[cO b,n,bN (show lV f 12=some 0 from rfl),if_pos Z,cO b];unfold BZ;dsimp only;rw[if_neg (by decide),if_neg (by decide),if_neg (by decide),if_neg (by decide),if_neg (by decide),if_pos Z,cO (by omega),cO (by show 0<=(q:Int)∧(q:Int)<((row g v).length:Int);omega),e,cO (by omega),cO (by omega)];rfl
theorem afB (d:HL g nv c) (i:v<g.2.length) {a:Nat} (l:a<nv) (h:at' T k=(5,(a:Int))) (b:0<=k∧k<(T.length:Int)):fK (f+1) g c (v:Int) p T k=some (at' (at' c (v:Int)) (a:Int)):=by
 have m:=d.row v i;have e:=d.len;show pF (fK f) f g c (v:Int) p T k=_;unfold pF;rw[cO b,h,bN (show lV f 5=some 0 from rfl),if_pos Z,cO b];unfold BZ;dsimp only;rw[if_neg (by decide),if_neg (by decide),if_neg (by decide),if_neg (by decide),if_pos Z,cO (by omega),cO (by omega)];rfl
theorem rBi {o x y z a:Int} (A:30<=o) (B:o<=42) (r:at' T k=(o,a)) (d:0<=k∧k<(T.length:Int)) (b:wI .i64 (k+1)=k1) (q:rW f T k 1=some j) (t:fK f g c (v:Int) p T k1=some x) (u:fK f g c (v:Int) p T j=some y) (e:QC x) (h:QC y)
  (w:vZ f o x y=some z) (i:QC z):fK (f+1) g c (v:Int) p T k=some z:=by
 have n:lV f o=some 2:=by
  unfold lV yU yV yW;rw[if_pos (by omega),zA3 (by omega),if_neg (by decide),if_pos (by omega),zA3 (by omega),if_neg (by decide),if_pos (by omega),zA4 (by omega),if_pos Z]
 show pF (fK f) f g c (v:Int) p T k=_;unfold pF;rw[cO d,r,bN n,if_neg (by decide),if_neg (by decide),if_pos Z,b,bN (show fK f _ c (v:Int) p T k1=_ from t),bN q,bN (show fK f _ c (v:Int) p T j=_ from u)];unfold CC oJ;dsimp only;rw[if_neg (by omega),if_neg (by omega),bN (Ti f e),if_neg (by decide),bN (Ti f h),if_neg (by decide),bN w];have s:nA f z=some z:=by
  unfold nA;obtain⟨l,m⟩:=i;rw[Int.max_eq_left l,Int.min_eq_left m]
 rw[bN s];rfl
theorem rAg (hV:VG g) (hv:v<g.2.length) {o a:Int} (ho:o=21∨o=27) (hf:100<=f) (hk:at' T k=(o,a)) (hkr:0<=k∧k<(T.length:Int)) (hk1:wI .i64 (k+1)=k1) {F:Nat->Int} (hF:∀q:Nat,q<(row g v).length->fK f g c (v:Int) (q:Int) T k1=some (F q)):fK (f+1) g c (v:Int) p T k=some (KR o ((List.range (row g v).length).map F)):=by
 have hd:=(hV.node v hv).deg;have h24:=hV.n24;have ha:lV f o=some 1:=by rcases ho with rfl|rfl<;>rfl
 have hg:yN f o=some true:=by rcases ho with rfl|rfl<;>rfl
 have hdeg:(row g v).length<=24:=by omega
 show pF (fK f) f g c (v:Int) p T k=_;unfold pF;rw[cO hkr,hk,bN ha,if_neg (by decide),if_pos Z,bN hg,if_pos Z];refine dO (step:=Bv f g c (v:Int) T k (fK f)) (row g v).length (λq=>((List.range q).map F,(q:Int))) (λq ag hq=> ?_) (λag=> ?_) f (by omega)
 ·unfold Bv;dsimp only;rw[cO (by omega),if_pos (show(q:Int)<((row g v).length:Int) by omega),hk1,bN (show fK f _ c (v:Int) (q:Int) T k1=_ from hF q hq),cO (by simp;omega),dJ (by omega),List.range_succ,List.map_append,List.map_singleton]
 ·unfold Bv FG;dsimp only;rw[cO (by omega),if_neg (show¬((row g v).length:Int)<((row g v).length:Int) by omega),hk];dsimp only;have hl:((List.range (row g v).length).map F).length=(row g v).length:=by simp
  rcases ho with rfl|rfl
  ·rw[bN (ZJ f _ (by omega) (by omega))]
  ·rw[bN (ZK f _ (by omega) (by omega))];rfl
end
theorem aaT {g:GR} {a:List Fe} (b:gV g a) {x:Nat} (c:x<a.length) (v:Nat):lo g (at' a (x:Int)) v<=hi g (at' a (x:Int)) v:=by
 rcases b.kind x c with k|k|k
 ·have h:=(b.range x c k).2.1;unfold lo hi at h ⊢;rw[k]at h ⊢;simpa using h
 ·unfold lo hi;rw[k];simp
 ·unfold lo hi;rw[k];simp;omega
theorem Ue {g:GR} {a:List Fe} (b:gV g a) {x:Nat} (c:x<a.length) (v:Nat) (y:Int):lo g (at' a (x:Int)) v<=Ft (at' a (x:Int)).2.1 (pI g a v x) y∧Ft (at' a (x:Int)).2.1 (pI g a v x) y<=hi g (at' a (x:Int)) v:=by
 have h:=aaT b c v;unfold Ft pI;dsimp only;split
 ·assumption
 ·split
  ·rename_i k;unfold lo hi;rw[k];simp;omega
  ·split<;>omega
end Go.Proofs.YtflciafboapaaaaGreat
namespace Go.Proofs.YtflciafboapaaaaGreat
open Go.Sx
def jG (U:Nat) (b:fH) (c:cS) (d:Int) (a:Int):Option gH:=
 ck (0<=a∧a<(b.2.1.length:Int)) (if((at' b.2.1 a).2.1)=(2:Int)then(some ((0:Int),(1:Int)))else(if((at' b.2.1 a).2.1)=(3:Int)then(ck (0<=d∧d<(c.2.length:Int)) (some ((-1:Int),(wI .i64 (((at' c.2 d).length:Int) - (1:Int))))))else(ck (0<=a∧a<(b.2.1.length:Int)) (ck (0<=a∧a<(b.2.1.length:Int)) (ck (0<=a∧a<(b.2.1.length:Int)) (ck (0<=a∧a<(b.2.1.length:Int)) (Option.bind (lO U ((c.1,c.2))) λe=>(some (((at' b.2.1 a).2.2.1),(wI .i64 ((wI .i64 (((at' b.2.1 a).2.2.2.1)+(wI .i64 (((at' b.2.1 a).2.2.2.2.1)*(c.2.length:Int)))))+(wI .i64 (((at' b.2.1 a).2.2.2.2.2)*e)))))))))))))
theorem JS:bD Tryz.prog 100:=Tryz.call100
theorem Cf (U:Nat) {a:fH} {j:cS} {t:Int} {u:Int} (e:Value)  (f:Value)  (g:Value)  (i:Value)  (v:kY) (r:gC) (h:jG U a j t u=some r):
  bG Tryz.prog 100 #[Value.agg #[vS (a.1),e,f],Value.agg #[g,i],vI (t),vI (u)] [Sl aG e a.2.1,Sl aF f a.2.2,PF (Value.agg #[vS a.1,e,f]),Sl aP g j.1,S2 bA i v j.2] (λx:Unit=>Value.tuple #[vI (r.1),vI (r.2)]) (λx l=>l) (λ_ l=>l):=by
 refine bG.of Tryz.func100 Z Tryz.ntmps100 Z λc=>?_;refine aX<|aM (aS.box (cs:=[vS (a.1),e,f]) Z Z) Z λw=>aM (aS.box (cs:=[g,i]) Z Z) Z λy=>aD Z<|aD Z<|aQ<|aN<|aX<|bX Z<|dU 1 Z<|aB Z<|cQ h λo h=>aC (bI Z Z (aA.fact 0 Z) Z Z o) Z<|aC (dX Z Z Z Z Z) Z<|aC (fI Z (aA.fact 0 Z) Z Z Z nV o) Z<|aQ<|aW<|aX<|cI Z<|aD Z<|aQ ?_;refine eJ h Z (λh=>?_) λh=>?_
 ·refine aX<|aD Z<|aD Z<|aQ<|aT<|bF<|aJ ?_;cases h;exact hJ () Z Z (RV.tmp Z) (RV.tmp Z) .nil aI.nil
 refine aX<|cI Z<|aD Z<|aQ ?_;refine eJ h Z (λh=>?_) λh=>?_
 ·refine aN ?_;refine JR.start [0,1,0,7,15,31,63,0,255] 8 mixedOrders (by decide +kernel) ?_;refine zBc (by exact rfl) ?_;refine cB Z<|eI 0 Z<|aV Z<|cQ h λd h=>bE Z .nil (fW 4 Z) (bH Z Z (aA.fact 0 Z) Z Z d) aO.z<|bE Z .nil (fW 4 Z) (bS Z (aA.fact 0 Z) Z Z d) aO.z<|bE Z .nil (fW 4 Z) (fG Z (zBb (aA.fact 0 Z) d.1 d.2) Z) aO.z<|e_ Z (oD Z Z)<|e_ Z (Cm Z)<|bM 8 Z Z<|aD Z<|aQ<|aT<|bF<|aJ ?_;cases h;exact hJ () Z Z (RV.tmp Z) (RV.tmp Z) .nil aI.nil
 refine eC<|lJ<|aN ?_;refine JR.start [0,1,0,7,15,31,0,64,0,448,960,1984,0,4096,0,28672,61440,126976,0,262144,786432,2093056,4194240,0,8388608,0,58720256,125829120,260046848,0,536870912,2139095040,4294967232,1610612799,17179869183] 34 mixedOrders (by decide +kernel) ?_;refine zBc (by exact rfl) ?_;refine cB Z<|eI 1 Z<|aV Z<|cQ h λp h=>bE Z .nil (fW 0 Z) (bI Z Z (aA.fact 0 Z) Z Z p) aO.z<|e_ Z (dX Z Z Z Z Z)<|bE Z .nil (fW 0 Z) (fI Z (aA.fact 0 Z) Z Z Z EY p) aO.z<|cB Z<|eI 1 Z<|aV Z<|cQ h λq h=>bE Z .nil (fW 0 Z) (bI Z Z (aA.fact 0 Z) Z Z q) aO.z<|e_ Z (dX Z Z Z Z Z)<|bE Z .nil (fW 0 Z) (fI Z (aA.fact 0 Z) Z Z Z EZ q) aO.z<|cB Z<|eI 1 Z<|aV Z<|cQ h λs h=>bE Z .nil (fW 0 Z) (bI Z Z (aA.fact 0 Z) Z Z s) aO.z<|e_ Z (dX Z Z Z Z Z)<|bE Z .nil (fW 0 Z) (fI Z (aA.fact 0 Z) Z Z Z E_ s) aO.z<|cB Z<|eI 0 Z<|bE Z .nil (fW 4 Z) (dD Z (aA.fact 0 Z) Z) aO.z<|e_ Z (Fp Z Z)<|e_ Z (Fl Z Z)<|cB Z<|eI 1 Z<|aV Z<|cQ h λb h=>bE Z .nil (fW 0 Z) (bI Z Z (aA.fact 0 Z) Z Z b) aO.z<|e_ Z (dX Z Z Z Z Z)<|bE Z .nil (fW 0 Z) (fI Z (aA.fact 0 Z) Z Z Z Fa b) aO.z<|iR 0 Z<|eO h λk m h=>zBd Z Z Z (zBa Sw (DW U g i v k m) Z (iD [3,4] Z)) Z (λn=>(pB [([],[0]),([],[0]),([1],[]),([],[4]),([0],[]),([],[0]),([],[0]),([1],[]),([],[0]),([],[0]),([1],[]),([],[0]),([],[0]),([1],[])] Z)) λn=>e_ Z (Fp Z Z)<|e_ Z (Fl Z Z)<|e_ Z (Cm Z)<|bM 34 Z Z<|aD Z<|aQ<|aT ?_;cases h;exact hJ () Z Z (RV.tmp Z) (RV.tmp Z) .nil aI.nil
def AR  (a:Unit):Option (Int):=
 some (0:Int)
def AS (b:Int) (a:(Int)->Option (Int)) (c:Bool):Option (Int):=
 if c=true then(some (9:Int))else(a (wI .i64 (b+(1:Int))))
def sE (U:Nat) (c:fH) (f:cS) (a:Int) (b:(Int)->Option (Int)):Option (Int):=
 if a<(c.2.1.length:Int)then(Option.bind (jG U ((c.1,c.2.1,c.2.2)) ((f.1,f.2)) (0:Int) a) λd=>(ck (0<=a∧a<(c.2.1.length:Int)) (if((at' c.2.1 a).2.1)=(1:Int)then(Option.bind (iA U (wI .i64 (d.2 - d.1)) (0:Int) (4095:Int)) λe=>(AS a b ((!e))))else(AS a b (false)))))else(AR  (()))
def oV (U:Nat) (a:fH) (b:cS):Option (Int):=
 Option.bind (Dp U ((a.1,a.2.1,a.2.2))) λc=>(if(!c)=true then(some (8:Int))else(Option.bind (jV U ((b.1,b.2))) λd=>(if(!d)=true then(some (1:Int))else(bP (sE U a b) U (0:Int)))))
theorem Sv:bD Tryz.prog 112:=Tryz.call112
theorem Ir (U:Nat) {d:fH} {p:cS} (f:Value)  (g:Value)  (i:Value)  (j:Value)  (z:kY) (r:Int) (h:oV U d p=some r):
  bG Tryz.prog 112 #[Value.agg #[vS (d.1),f,g],Value.agg #[i,j]] [Sl aG f d.2.1,Sl aF g d.2.2,PF (Value.agg #[vS d.1,f,g]),Sl aP i p.1,S2 bA j z p.2] (λx:Unit=>vI (r)) (λx l=>l) (λ_ l=>l):=by
 refine bG.of Tryz.func112 Z Tryz.ntmps112 Z λc=>?_;refine aX<|aM (aS.box (cs:=[vS (d.1),f,g]) Z Z) Z λs=>aM (aS.box (cs:=[i,j]) Z Z) Z λt=>aD Z<|aQ<|aN<|aX<|cM 1 Z<|eO h λA C h=>aM (zBa NC (LY U f g A C) Z (iD [0,1,2] Z)) Z λG=>aC (iQ Z) Z<|aQ ?_;refine qS h Z (λ_ h=>?_) λ_ h=>?_
 ·refine aX<|aD Z<|aQ<|aT<|aJ ?_;cases h;exact lY Z
 refine cK<|aN<|aX<|cM 0 Z<|eO h λB D h=>aM (zBa VV (GW U i j z B D) Z (iD [3,4] Z)) Z λH=>aC (iQ Z) Z<|aQ ?_;refine qS h Z (λ_ h=>?_) λ_ h=>?_
 ·refine aX<|aD Z<|aQ<|aT<|aJ ?_;cases h;exact lY Z
 refine cK<|aN<|eG (λe=>AR  e=some r) (λe k=>[]) (λe k=>[]) ?_ ?_
 ·refine aX<|aD Z<|aQ<|aW<|fJ (sE U d p) (λa m=>[(2,vP s),(3,vP t),(5,vI (a))]) (λa m=>[bO t [i,j] 31,bO s [vS (d.1),f,g] 36]) (0:Int) () h SF (a_.refl _) ?_;intro u a m h;refine aN<|aX<|aB Z<|bX Z<|dU 1 Z<|jM (aA.fact 0 Z) Z<|cX Z<|aQ ?_;refine eJ h Z (λh=>?_) λh=>?_
  ·refine cK<|aN<|aW<|aX<|cM 1 Z<|cM 0 Z<|aB Z<|eO h λv w h=>aM (zBa JS (Cf U f g i j z v w) Z (iD [0,1,2,3,4] Z)) Z λE=>aB Z<|iG Z<|iG Z<|aD Z<|aD Z<|aQ<|aN<|eG (λb=>AS a (bP (sE U d p) u) b=some r) (λb n=>[(2,vP s),(3,vP t),(5,vI (a)),(41,vB (b))]) (λb n=>[bO t [i,j] 31,bO s [vS (d.1),f,g] 36]) ?_ ?_
   ·refine aU<|bX Z<|dU 1 Z<|aB Z<|cQ h λo h=>aC (bI Z Z (aA.fact 0 Z) Z Z o) Z<|aC (dX Z Z Z Z Z) Z<|aC (fI Z (aA.fact 0 Z) Z Z Z nV o) Z<|cI Z<|aB Z ?_;refine AL h Z (λ_ h=>?_) λ_ h=>?_
    ·refine dH Z<|dH Z<|aR Z (oD Z Z) Z<|eO h λq y h=>lR Z (zBa tG (jF U  q y) Z .nil) Z λF=>aR Z (iQ Z) Z<|dG Z<|aQ ?_;exact gJ ((!q)) () h SF Z
    refine aK Z<|aK Z<|aK Z<|aK Z<|aK Z<|dR Z<|aQ ?_;exact gJ (false) () h SF Z
   intro b n h;refine qS h Z (λ_ h=>?_) λ_ h=>?_
   ·refine aX<|aD Z<|aQ<|aT<|bF<|aJ<|aJ<|bF<|aJ ?_;cases h;exact lY Z
   refine eC<|lJ<|aU<|aB Z<|cW Z<|aD Z<|aQ ?_;exact vT (wI .i64 (a+(1:Int))) () h SF Z
  refine fF ?_;exact cE () (()) h SF .nil (aI.refl _ _)
 intro e k h;unfold AR at h;refine aX<|aD Z<|aQ<|aT ?_;cases h;exact iJ Z
def tY  (a:Unit):Option (Int):=
 some (0:Int)
def tZ (b:Int) (a:(Int)->Option (Int)) (c:Unit):Option (Int):=
 a (wI .i64 (b+(1:Int)))
def nO (U:Nat) (g:fH) (i:cS) (e:bV) (a:Int) (c:(Int)->Option (Int)) (b:Int) (d:(Int)->Option (Int)):Option (Int):=
 ck (0<=a∧a<(e.length:Int)) (if b<((at' e a).length:Int)then(Option.bind (jG U ((g.1,g.2.1,g.2.2)) ((i.1,i.2)) a b) λf=>(ck (0<=a∧a<(e.length:Int)) (ck (0<=b∧b<((at' e a).length:Int)) (Option.bind (iA U (at' (at' e a) b) f.1 f.2) λh=>(if(!h)=true then(some (10:Int))else(d (wI .i64 (b+(1:Int)))))))))else(tZ a c (())))
def kU (U:Nat) (d:fH) (e:cS) (c:bV) (a:Int) (b:(Int)->Option (Int)):Option (Int):=
 if a<(c.length:Int)then(ck (0<=a∧a<(c.length:Int)) (if((at' c a).length:Int)≠(d.2.1.length:Int)then(some (10:Int))else(bP (nO U d e c a b) U (0:Int))))else(tY  (()))
def kO (U:Nat) (a:fH) (b:cS) (c:bV):Option (Int):=
 Option.bind (oV U ((a.1,a.2.1,a.2.2)) ((b.1,b.2))) λd=>(if d≠(0:Int)then(some (d))else(if(c.length:Int)≠(b.2.length:Int)then(some (10:Int))else(bP (kU U a b c) U (0:Int))))
theorem V_:bD Tryz.prog 99:=Tryz.call99
theorem GX (U:Nat) {i:fH} {y:cS} {E:bV} (n:Value)  (o:Value)  (p:Value)  (q:Value)  (J:kY)  (A:Value)  (Q:mR) (r:Int) (h:kO U i y E=some r):
  bG Tryz.prog 99 #[Value.agg #[vS (i.1),n,o],Value.agg #[p,q],A] [Sl aG n i.2.1,Sl aF o i.2.2,PF (Value.agg #[vS i.1,n,o]),Sl aP p y.1,S2 bA q J y.2,S2 aP A Q E] (λx:Unit=>vI (r)) (λx l=>l) (λ_ l=>l):=by
 let m:=(kU U i y E)
 refine bG.of Tryz.func99 Z Tryz.ntmps99 Z λc=>?_;refine aX<|aM (aS.box (cs:=[vS (i.1),n,o]) Z Z) Z λC=>let j:=bO C [vS (i.1),n,o] 36;aM (aS.box (cs:=[p,q]) Z Z) Z λD=>let k:=bO D [p,q] 31;aD Z<|aQ<|aN<|aX<|cM 1 Z<|cM 0 Z<|eO h λM N h=>aM (zBa Sv (Ir U n o p q J M N) Z (iD [0,1,2,3,4] Z)) Z λR=>aD Z<|aQ<|aX<|aB Z<|kA Z<|aQ ?_
 refine eJ h Z (λh=>?_) λh=>?_
 ·refine aX<|aB Z<|aD Z<|aQ<|aT<|aJ ?_;cases h;exact lY Z
 refine cK<|aN<|aX<|aB Z<|aC (dD Z (aA.fact 5 Z) Z) Z<|bX Z<|dU 0 Z<|aC (dD Z (aA.fact 4 Z) Z) Z<|kA Z<|aQ ?_;refine eJ h Z (λh=>?_) λh=>?_
 ·refine aX<|aD Z<|aQ<|aT<|aJ ?_;cases h;exact lY Z
 refine cK<|aN<|eG (λB=>tY  B=some r) (λB K=>[]) (λB K=>[]) ?_ ?_
 ·refine aX<|aD Z<|aQ<|aW<|fJ m (λa s=>[(2,A),(3,vP C),(4,vP D),(8,vI (a))]) (λa s=>[k,j]) (0:Int) () h SF (a_.refl _) ?_;intro w a s h;refine aN<|aX<|aB Z<|aB Z<|aC (dD Z (aA.fact 5 Z) Z) Z<|cX Z<|aQ ?_;refine eJ h Z (λh=>?_) λh=>?_
  ·refine cK<|aN<|eG (λd=>tZ a (bP m w) d=some r) (λd t=>[(2,A),(3,vP C),(4,vP D),(8,vI (a))]) (λd t=>[k,j]) ?_ ?_
   ·refine aW<|aN<|aN ?_;refine JR.start [0,0,3,7,15,0,32,96,255] 8 mixedOrders (by decide +kernel) ?_;refine zBc (by exact rfl) ?_;refine aV Z<|aV Z<|cQ h λf h=>bE Z .nil (fW 5 Z) (bH Z Z (aA.fact 0 Z) Z Z f) aO.z<|bE Z .nil (fW 5 Z) (bS Z (aA.fact 0 Z) Z Z f) aO.z<|bE Z .nil (fW 5 Z) (fG Z (zBb (aA.fact 0 Z) f.1 f.2) Z) aO.z<|cB Z<|eI 1 Z<|bE Z .nil (fW 0 Z) (fG Z (aA.fact 0 Z) Z) aO.z<|bM 8 Z Z<|kA Z<|aQ ?_;refine eJ h Z (λh=>?_) λh=>?_
    ·refine aX<|aD Z<|aQ<|aT<|aJ<|bF<|aJ<|aJ<|bF<|aJ ?_;cases h;exact lY Z
    refine cK<|aX<|aD Z<|aQ<|aW<|fJ (nO U i y E a (bP m w)) (λe u=>[(2,A),(3,vP C),(4,vP D),(8,vI (a)),(9,vI (e))]) (λe u=>[k,j]) (0:Int) () h SF (a_.refl _) ?_;intro L e u h;refine aN<|aX<|aB Z<|aB Z<|aB Z<|cQ h λg h=>aC (bH Z Z (aA.fact 5 Z) Z Z g) Z<|aC (bS Z (aA.fact 5 Z) Z Z g) Z<|aC (fG Z (zBb (aA.fact 5 Z) g.1 g.2) Z) Z<|cX Z<|aQ ?_;refine eJ h Z (λh=>?_) λh=>?_
    ·refine cK<|aN<|aW<|aX<|cM 1 Z<|cM 0 Z<|aB Z<|aB Z<|eO h λF H h=>aM (zBa JS (Cf U n o p q J F H) Z (iD [0,1,2,3,4] Z)) Z λO=>aB Z<|iG Z<|iG Z<|aD Z<|aD Z<|aQ<|aX<|aB Z<|aB Z<|cQ h λb h=>aC (bH Z Z (aA.fact 5 Z) Z Z b) Z<|aC (bS Z (aA.fact 5 Z) Z Z b) Z<|aB Z<|cQ h λv h=>aC (bI Z Z (zBb (aA.fact 5 Z) b.1 b.2) Z Z v) Z<|aC (cL Z (zBb (aA.fact 5 Z) b.1 b.2) Z Z Z fN v) Z<|aB Z<|aB Z<|eO h λG I h=>aM (zBa tG (jF U  G I) Z .nil) Z λP=>aC (iQ Z) Z<|aQ ?_;refine qS h Z (λ_ h=>?_) λ_ h=>?_
     ·refine aX<|aD Z<|aQ<|aT<|bF<|aJ<|aJ<|bF<|bF<|aJ<|aJ<|bF<|aJ ?_;cases h;exact lY Z
     refine eC<|lJ<|aU<|aB Z<|cW Z<|aD Z<|aQ ?_;exact vT (wI .i64 (e+(1:Int))) () h SF Z
    refine sG<|gR<|gR<|Af<|lJ ?_;exact gJ () (()) h SF Z
   intro d t h;unfold tZ at h;refine aU<|aB Z<|cW Z<|aD Z<|aQ ?_;exact vT (wI .i64 (a+(1:Int))) () h SF Z
  refine fF ?_;exact cE () (()) h SF .nil (aI.refl _ _)
 intro B K h;unfold tY at h;refine aX<|aD Z<|aQ<|aT ?_;cases h;exact iJ Z
def zB  (a:Unit):Option (Int):=
 some (-1:Int)
def t_ (U:Nat) (c:fH) (e:cS) (f:bV) (g:Int) (a:Int) (b:(Int)->Option (Int)):Option (Int):=
 if a<(c.2.2.length:Int)then(ck (0<=a∧a<(c.2.2.length:Int)) (Option.bind (fK U ((e.1,e.2)) f g (-1:Int) ((at' c.2.2 a).2.1.2) (0:Int)) λd=>(if d≠(0:Int)then(some (a))else(b (wI .i64 (a+(1:Int)))))))else(zB  (()))
def kP (U:Nat) (a:fH) (b:cS) (c:bV) (d:Int):Option (Int):=
 bP (t_ U a b c d) U (0:Int)
theorem Nx:bD Tryz.prog 104:=Tryz.call104
theorem Du (U:Nat) {b:fH} {k:cS} {o:bV} {m:Int} (e:Value)  (f:Value)  (g:Value)  (i:Value)  (w:kY)  (n:Value)  (y:mR) (r:Int) (h:kP U b k o m=some r):
  bG Tryz.prog 104 #[Value.agg #[vS (b.1),e,f],Value.agg #[g,i],n,vI (m)] [Sl aG e b.2.1,Sl aF f b.2.2,PF (Value.agg #[vS b.1,e,f]),Sl aP g k.1,S2 bA i w k.2,S2 aP n y o] (λx:Unit=>vI (r)) (λx l=>l) (λ_ l=>l):=by
 refine bG.of Tryz.func104 Z Tryz.ntmps104 Z λc=>?_;unfold kP at h;refine aX<|aM (aS.box (cs:=[vS (b.1),e,f]) Z Z) Z λs=>aM (aS.box (cs:=[g,i]) Z Z) Z λt=>aD Z<|aQ<|aN<|eG (λj=>zB  j=some r) (λj u=>[]) (λj u=>[]) ?_ ?_
 ·refine aX<|aD Z<|aQ<|aW<|fJ (t_ U b k o m) (λd v=>[(2,n),(3,vI (m)),(4,vP s),(5,vP t),(9,vI (d))]) (λd v=>[bO t [g,i] 31,bO s [vS (b.1),e,f] 36]) (0:Int) () h SF (a_.refl _) ?_;intro B d v h;refine aN<|aX<|aB Z<|bX Z<|dU 1 Z<|jM (aA.fact 1 Z) Z<|cX Z<|aQ ?_;refine eJ h Z (λh=>?_) λh=>?_
  ·refine cK<|aN<|aW<|aN ?_;refine JR.start [0,0,0,0,8,0,56,120,248,511,1023] 9 mixedOrders (by decide +kernel) ?_;refine zBc (by exact rfl) ?_;refine iR 0 Z<|aV Z<|aV Z<|cB Z<|eI 1 Z<|aV Z<|cQ h λa h=>bE Z .nil (fW 1 Z) (bI Z Z (aA.fact 0 Z) Z Z a) aO.z<|e_ Z (dX Z Z Z Z Z)<|bE Z .nil (fW 1 Z) (fI Z (aA.fact 0 Z) Z Z Z sI a) aO.z<|bM 9 Z Z<|eO h λp q h=>aM (zBa BW (Lr U g i w n y ((at' b.2.2 d).2.1.1) p q) Z (aI.cons (aA.fact 3 Z) (aI.cons (aA.fact 4 Z) (aI.cons (aA.fact 5 Z) (aI.cons (jS (aA.fact 1 Z) sK a.1 a.2) .nil))))) Z λA=>kA Z<|aQ ?_;refine eJ h Z (λh=>?_) λh=>?_
   ·refine aX<|aB Z<|aD Z<|aQ<|aT<|bF<|aJ<|aJ<|bF<|aJ ?_;cases h;exact lY Z
   refine eC<|lJ<|aU<|aB Z<|cW Z<|aD Z<|aQ ?_;exact vT (wI .i64 (d+(1:Int))) () h SF Z
  refine fF ?_;exact cE () (()) h SF .nil (aI.refl _ _)
 intro j u h;unfold zB at h;refine aX<|aD Z<|aQ<|aT ?_;cases h;exact iJ Z
def yX (c:Int) (a:gC) (b:Bool):Option (Int):=
 if b=true then(some (-1:Int))else(some (min (max c a.1) a.2))
def vY (U:Nat) (a:fH) (f:cS) (g:Int) (b:Int) (d:Int):Option (Int):=
 Option.bind (jG U ((a.1,a.2.1,a.2.2)) ((f.1,f.2)) g b) λc=>(ck (0<=b∧b<(a.2.1.length:Int)) (if((at' a.2.1 b).2.1)=(3:Int)then(Option.bind (iA U d c.1 c.2) λe=>(yX d c ((!e))))else(yX d c (false))))
theorem Zg:bD Tryz.prog 208:=Tryz.call208
theorem LZ (U:Nat) {a:fH} {n:cS} {q:Int} {s:Int} {i:Int} (f:Value)  (g:Value)  (k:Value)  (m:Value)  (t:kY) (r:Int) (h:vY U a n q s i=some r):
  bG Tryz.prog 208 #[Value.agg #[vS (a.1),f,g],Value.agg #[k,m],vI (q),vI (s),vI (i)] [Sl aG f a.2.1,Sl aF g a.2.2,PF (Value.agg #[vS a.1,f,g]),Sl aP k n.1,S2 bA m t n.2] (λx:Unit=>vI (r)) (λx l=>l) (λ_ l=>l):=by
 refine bG.of Tryz.func208 Z Tryz.ntmps208 Z λc=>?_;refine aX<|aM (aS.box (cs:=[vS (a.1),f,g]) Z Z) Z λw=>aM (aS.box (cs:=[k,m]) Z Z) Z λy=>aD Z<|aQ<|aX<|cM 1 Z<|cM 0 Z<|aB Z<|aB Z<|eO h λj u h=>aM (zBa JS (Cf U f g k m t j u) Z (iD [0,1,2,3,4] Z)) Z λz=>aB Z<|iG Z<|iG Z<|aD Z<|aD Z<|aQ<|aN<|aN<|eG (λb=>yX i j b=some r) (λb p=>[(4,vI (i)),(11,vI (j.1)),(12,vI (j.2)),(34,vB (b))]) (λb p=>[]) ?_ ?_
 ·refine aU<|bX Z<|dU 1 Z<|aB Z<|cQ h λd h=>aC (bI Z Z (aA.fact 0 Z) Z Z d) Z<|aC (dX Z Z Z Z Z) Z<|aC (fI Z (aA.fact 0 Z) Z Z Z nV d) Z<|cI Z<|aB Z ?_;refine AL h Z (λ_ h=>?_) λ_ h=>?_
  ·refine dH Z<|dH Z<|dH Z<|eO h λe o h=>lR Z (zBa tG (jF U  e o) Z .nil) Z λv=>aR Z (iQ Z) Z<|dG Z<|aQ ?_;exact cE ((!e)) () h SF .nil (aI.refl _ _)
  refine aK Z<|aK Z<|aK Z<|aK Z<|aK Z<|dR Z<|aQ ?_;exact cE (false) () h SF .nil (aI.refl _ _)
 intro b p h;refine qS h Z (λ_ h=>?_) λ_ h=>?_
 ·refine aX<|aD Z<|aQ<|aT<|aJ ?_;cases h;exact iJ Z
 refine cK<|aX<|aB Z<|aB Z<|aC (HO Z Z) Z<|aB Z<|aC (Mo Z Z) Z<|aD Z<|aQ<|aT ?_;cases h;exact iJ Z
def A_  (a:cC):Option cC:=
 some (a)
def wF (U:Nat) (b:fH) (e:cS) (i:bV) (h:Int) (c:Int) (a:Int×cC) (d:(Int×cC)->Option cC):Option cC:=
 if a.1<(((at' b.2.2 c).2.2.2).length:Int)then(ck (0<=a.1∧a.1<(((at' b.2.2 c).2.2.2).length:Int)) (ck (0<=a.1∧a.1<(((at' b.2.2 c).2.2.2).length:Int)) (ck (0<=a.1∧a.1<(((at' b.2.2 c).2.2.2).length:Int)) (Option.bind (fK U ((e.1,e.2)) i h (-1:Int) ((at' ((at' b.2.2 c).2.2.2) a.1).2.2) (0:Int)) λf=>(Option.bind (vY U ((b.1,b.2.1,b.2.2)) ((e.1,e.2)) h ((at' ((at' b.2.2 c).2.2.2) a.1).1) f) λg=>(ck (0<=((at' ((at' b.2.2 c).2.2.2) a.1).1)∧((at' ((at' b.2.2 c).2.2.2) a.1).1)<(a.2.length:Int)) (d ((wI .i64 (a.1+(1:Int))),(List.set a.2 (Int.toNat ((at' ((at' b.2.2 c).2.2.2) a.1).1)) g)))))))))else(A_  (a.2))
def yQ (U:Nat) (b:fH) (d:cS) (c:bV) (a:Int):Option cC:=
 ck (0<=a∧a<(c.length:Int)) (ck ((List.length ([]:cC):Int)+((at' c a).length:Int)<=1099511627) (Option.bind (kP U ((b.1,b.2.1,b.2.2)) ((d.1,d.2)) c a) λe=>(ck (0<=e∧e<(b.2.2.length:Int)) (bP (wF U b d c a e) U ((0:Int),(([]:cC)++(at' c a)))))))
theorem YY:bD Tryz.prog 170:=Tryz.call170
theorem Oz (U:Nat) {e:fH} {A:cS} {B:bV} {t:Int} (i:Value)  (j:Value)  (k:Value)  (m:Value)  (C:kY)  (w:Value)  (I:mR) (r:cC) (h:yQ U e A B t=some r):
  bG Tryz.prog 170 #[Value.agg #[vS (e.1),i,j],Value.agg #[k,m],w,vI (t)] [Sl aG i e.2.1,Sl aF j e.2.2,PF (Value.agg #[vS e.1,i,j]),Sl aP k A.1,S2 bA m C A.2,S2 aP w I B] (λx:Value=>x) (λx l=>Ar iF x r::l) (λ_ l=>l):=by
 refine bG.of Tryz.func170 Z Tryz.ntmps170 Z λc=>?_;refine aX<|aM (aS.box (cs:=[vS (e.1),i,j]) Z Z) Z λJ=>aM (aS.box (cs:=[k,m]) Z Z) Z λK=>aD Z<|aQ<|aX<|aB Z<|aB Z<|cQ h λy h=>aC (bH Z Z (aA.fact 5 Z) Z Z y) Z<|aC (bS Z (aA.fact 5 Z) Z Z y) Z<|cD (iM iF)<|cQ h λL h=>aM (jZ 0 iH Z Z Z (zBb (aA.fact 5 Z) y.1 y.2) Z Z Z Z L Z) Z λv=>aD Z<|aQ<|aN ?_;refine JR.start [0,1,0,0,0,0,60,127,255,511,1023] 7 mixedOrders (by decide +kernel) ?_;refine zBc (by exact rfl) ?_;refine cB Z<|eI 2 Z<|iR 2 Z<|iR 1 Z<|aV Z<|aV Z<|eO h λu N h=>zBd Z Z Z (zBa Nx (Du U i j k m C w I u N) Z (iD [0,1,2,3,4,5] Z)) Z (λO=>(pB [([2],[])] Z)) λO=>bM 7 Z Z<|cQ h λb h=>aC (bI Z Z (aA.fact 1 Z) Z Z b) Z<|aC (dX Z Z Z Z Z) Z<|aC (fI Z (aA.fact 1 Z) Z Z Z sJ b) Z<|aD Z<|aQ<|aN<|eG (λd=>A_  d=some r) (λd n=>[(9,v)]) (λd n=>[Ar iF v d]) ?_ ?_
 ·refine aX<|aD Z<|aQ<|aW<|fJ (wF U e A B t u) (λa o=>[(2,w),(3,vI (t)),(4,vP J),(5,vP K),(9,v),(10,(at' e.2.2 u).2.2.1),(11,vI (a.1))]) (λa o=>[Ar iF v a.2,bO K [k,m] 31,bO J [vS (e.1),i,j] 36]) ((0:Int),(([]:cC)++(at' B t))) () h SF (a_.refl _) ?_;intro M a o h;refine aN<|aX<|aB Z<|aB Z<|aC (fG Z (jS (aA.fact 1 Z) cP b.1 b.2) Z) Z<|cX Z<|aQ ?_;refine eJ h Z (λh=>?_) λh=>?_
  ·refine cK<|aN<|aW ?_;refine JR.start [0,0,0,6,14,30,0,0,0,0,0,1536,3584,7680,0,0,0,0,0,393216,917504,1966080,4177920,8388544,16777215,33554431] 24 mixedOrders (by decide +kernel) ?_;refine zBc (by exact rfl) ?_;refine aV Z<|aV Z<|aV Z<|cQ h λp h=>bE Z .nil (fW 1 Z) (bI Z Z (jS (aA.fact 0 Z) cP b.1 b.2) Z Z p) aO.z<|e_ Z (dX Z Z Z Z Z)<|bE Z .nil (fW 1 Z) (fI Z (jS (aA.fact 0 Z) cP b.1 b.2) Z Z Z EN p) aO.z<|iR 2 Z<|iR 1 Z<|aV Z<|aV Z<|aV Z<|cQ h λq h=>bE Z .nil (fW 1 Z) (bI Z Z (jS (aA.fact 0 Z) cP b.1 b.2) Z Z q) aO.z<|e_ Z (dX Z Z Z Z Z)<|bE Z .nil (fW 1 Z) (fI Z (jS (aA.fact 0 Z) cP b.1 b.2) Z Z Z EN q) aO.z<|iR 1 Z<|aV Z<|aV Z<|aV Z<|aV Z<|cQ h λf h=>bE Z .nil (fW 1 Z) (bI Z Z (jS (aA.fact 0 Z) cP b.1 b.2) Z Z f) aO.z<|e_ Z (dX Z Z Z Z Z)<|bE Z .nil (fW 1 Z) (fI Z (jS (aA.fact 0 Z) cP b.1 b.2) Z Z Z JG f) aO.z<|eO h λD E h=>zBd Z Z Z (zBa BW (Lr U k m C w I ((at' ((at' e.2.2 u).2.2.2) a.1).2.1) D E) Z (aI.cons (aA.fact 3 Z) (aI.cons (aA.fact 4 Z) (aI.cons (aA.fact 5 Z) (aI.cons (jS (jS (aA.fact 1 Z) cP b.1 b.2) BA f.1 f.2) .nil))))) Z (λG=>(pB [([],[1]),([],[1]),([1],[]),([2],[]),([],[1]),([],[1])] Z)) λG=>eO h λg F h=>zBd Z Z Z (zBa Zg (LZ U i j k m C g F) Z (iD [0,1,2,3,4] Z)) Z (λH=>(pB [([],[1]),([],[1])] Z)) λH=>bM 24 Z Z<|cQ h λs h=>aC (bI Z Z (dM (aA.res 0 Z) iH) Z Z s) Z<|OS 0 g s Z Z Z Z Z Z Z<|fU<|lJ<|aU<|aB Z<|cW Z<|aD Z<|aQ ?_;exact vT ((wI .i64 (a.1+(1:Int))),(List.set a.2 (Int.toNat ((at' ((at' e.2.2 u).2.2.2) a.1).1)) g)) () h SF Z
  refine fF ?_;exact cE (a.2) () h SF (a_.ix [0] Z Z) (aI.refl _ _)
 intro d n h;unfold A_ at h;refine aX<|aB Z<|aD Z<|aQ<|aT ?_;cases h;exact pL (v) Z Z (RV.tmp Z) (a_.refl _) aI.nil
def yO (U:Nat) (a:fH) (b:cS) (c:bV) (d:Int):Option (cC×Int):=
 Option.bind (kO U ((a.1,a.2.1,a.2.2)) ((b.1,b.2)) c) λg=>(if g≠(0:Int)then(some (([]:cC),g))else(Option.bind (iA U d (0:Int) (wI .i64 ((c.length:Int) - (1:Int)))) λh=>(if(!h)=true then(some (([]:cC),(2:Int)))else(Option.bind (kP U ((a.1,a.2.1,a.2.2)) ((b.1,b.2)) c d) λe=>(if e<(0:Int)then(some (([]:cC),(11:Int)))else(Option.bind (yQ U ((a.1,a.2.1,a.2.2)) ((b.1,b.2)) c d) λf=>(some (f,(0:Int)))))))))
theorem YM:bD Tryz.prog 113:=Tryz.call113
theorem Ox (U:Nat) {d:fH} {k:cS} {s:bV} {t:Int} (a:Value)  (b:Value)  (e:Value)  (f:Value)  (i:kY)  (g:Value)  (j:mR) (r:cC×Int) (h:yO U d k s t=some r):
  bG Tryz.prog 113 #[Value.agg #[vS (d.1),a,b],Value.agg #[e,f],g,vI (t)] [Sl aG a d.2.1,Sl aF b d.2.2,PF (Value.agg #[vS d.1,a,b]),Sl aP e k.1,S2 bA f i k.2,S2 aP g j s] (λx:Value=>Value.tuple #[x,vI (r.2)]) (λx l=>Ar iF x r.1::l) (λ_ l=>l):=by
 refine bG.of Tryz.func113 Z Tryz.ntmps113 Z λc=>?_;refine aX<|aM (aS.box (cs:=[vS (d.1),a,b]) Z Z) Z λA=>aM (aS.box (cs:=[e,f]) Z Z) Z λB=>aD Z<|aD Z<|aQ<|aN<|aX<|cM 1 Z<|cM 0 Z<|aB Z<|eO h λu w h=>aM (zBa V_ (GX U a b e f i g j u w) Z (iD [0,1,2,3,4,5] Z)) Z λC=>aD Z<|aQ<|aX<|aB Z<|kA Z<|aQ ?_;refine eJ h Z (λh=>?_) λh=>?_
 ·refine aX<|aB Z<|aD Z<|aD Z<|aQ<|aT<|aJ<|cD (iM iF) ?_;cases h;exact hJ (cY) Z Z (RV.tmp Z) (RV.tmp Z) (a_.ix [0] Z Z) aI.nil
 refine cK<|aN<|aX<|aB Z<|aB Z<|aC (dD Z (aA.fact 5 Z) Z) Z<|aC (oD Z Z) Z<|eO h λv y h=>aM (zBa tG (jF U  v y) Z .nil) Z λD=>aC (iQ Z) Z<|aQ ?_;refine qS h Z (λ_ h=>?_) λ_ h=>?_
 ·refine aX<|aD Z<|aD Z<|aQ<|aT<|aJ<|cD (iM iF) ?_;cases h;exact hJ (cY) Z Z (RV.tmp Z) (RV.tmp Z) (a_.ix [0] Z Z) aI.nil
 refine cK<|aN<|aX<|cM 1 Z<|cM 0 Z<|aB Z<|aB Z<|eO h λm o h=>aM (zBa Nx (Du U a b e f i g j m o) Z (iD [0,1,2,3,4,5] Z)) Z λz=>cX Z<|aQ ?_;refine eJ h Z (λh=>?_) λh=>?_
 ·refine aX<|aD Z<|aD Z<|aQ<|aT<|aJ<|cD (iM iF) ?_;cases h;exact hJ (cY) Z Z (RV.tmp Z) (RV.tmp Z) (a_.ix [0] Z Z) aI.nil
 refine cK<|aX<|cM 1 Z<|cM 0 Z<|aB Z<|aB Z<|eO h λn p h=>aM (zBa YY (Oz U a b e f i g j n p) Z (iD [0,1,2,3,4,5] Z)) Z λq=>aD Z<|aD Z<|aQ<|aT ?_;cases h;exact hJ (q) Z Z (RV.tmp Z) (RV.tmp Z) (a_.ix [0] Z Z) aI.nil
def lX (U:Nat) (a:fH) (b:cS) (c:bV):Option Bool:=
 Option.bind (kO U ((a.1,a.2.1,a.2.2)) ((b.1,b.2)) c) λd=>(some (decide (d=(0:Int))))
theorem VR:bD Tryz.prog 53:=Tryz.call53
theorem GY (U:Nat) {a:fH} {g:cS} {j:bV} (b:Value)  (d:Value)  (e:Value)  (f:Value)  (k:kY)  (i:Value)  (m:mR) (r:Bool) (h:lX U a g j=some r):
  bG Tryz.prog 53 #[Value.agg #[vS (a.1),b,d],Value.agg #[e,f],i] [Sl aG b a.2.1,Sl aF d a.2.2,PF (Value.agg #[vS a.1,b,d]),Sl aP e g.1,S2 bA f k g.2,S2 aP i m j] (λx:Unit=>vB (r)) (λx l=>l) (λ_ l=>l):=by
 refine bG.of Tryz.func53 Z Tryz.ntmps53 Z λc=>?_;refine aX<|aM (aS.box (cs:=[vS (a.1),b,d]) Z Z) Z λp=>aM (aS.box (cs:=[e,f]) Z Z) Z λq=>aD Z<|aQ<|aX<|cM 1 Z<|cM 0 Z<|aB Z<|eO h λn o h=>aM (zBa V_ (GX U b d e f k i m n o) Z (iD [0,1,2,3,4,5] Z)) Z λs=>cI Z<|aD Z<|aQ<|aT ?_;cases h;exact lY Z
def AZ (U:Nat) (a:fH) (b:cS) (d:bV) (e:Int) (c:Bool):Option (Int):=
 if c=true then(some (-1:Int))else(Option.bind (kP U ((a.1,a.2.1,a.2.2)) ((b.1,b.2)) d e) λf=>(some (f)))
def yP (U:Nat) (a:fH) (b:cS) (c:bV) (d:Int):Option (Int):=
 Option.bind (lX U ((a.1,a.2.1,a.2.2)) ((b.1,b.2)) c) λe=>(if(!e)=true then(AZ U a b c d (true))else(Option.bind (iA U d (0:Int) (wI .i64 ((c.length:Int) - (1:Int)))) λf=>(AZ U a b c d ((!f)))))
theorem abL:bD Tryz.prog 58:=Tryz.call58
theorem Oy (U:Nat) {b:fH} {m:cS} {o:bV} {n:Int} (d:Value)  (e:Value)  (f:Value)  (g:Value)  (t:kY)  (k:Value)  (u:mR) (r:Int) (h:yP U b m o n=some r):
  bG Tryz.prog 58 #[Value.agg #[vS (b.1),d,e],Value.agg #[f,g],k,vI (n)] [Sl aG d b.2.1,Sl aF e b.2.2,PF (Value.agg #[vS b.1,d,e]),Sl aP f m.1,S2 bA g t m.2,S2 aP k u o] (λx:Unit=>vI (r)) (λx l=>l) (λ_ l=>l):=by
 refine bG.of Tryz.func58 Z Tryz.ntmps58 Z λc=>?_;refine aX<|aM (aS.box (cs:=[vS (b.1),d,e]) Z Z) Z λv=>aM (aS.box (cs:=[f,g]) Z Z) Z λw=>aD Z<|aQ<|aN<|aN<|eG (λi=>AZ U b m o n i=some r) (λi y=>[(2,k),(3,vI (n)),(4,vP v),(5,vP w),(21,vB (i))]) (λi y=>[bO w [f,g] 31,bO v [vS (b.1),d,e] 36]) ?_ ?_
 ·refine aU<|cM 1 Z<|cM 0 Z<|aB Z<|eO h λp q h=>aM (zBa VR (GY U d e f g t k u p q) Z (iD [0,1,2,3,4,5] Z)) Z λB=>aC (iQ Z) Z<|aB Z ?_;refine qV (by exact rfl) (by exact rfl) (λa=>?_) (λa=>?_)
  ·have h:=Ff a h;refine aK Z<|aK Z<|aK Z<|aK Z<|aK Z<|aK Z<|dG Z<|aQ ?_;exact gJ (true) () h SF Z
  have h:=Cr a h;refine dH Z<|dH Z<|aR Z (dD Z (aA.fact 5 Z) Z) Z<|aR Z (oD Z Z) Z<|eO h λj s h=>lR Z (zBa tG (jF U  j s) Z .nil) Z λC=>aR Z (iQ Z) Z<|dR Z<|aQ ?_;exact gJ ((!j)) () h SF Z
 intro i y h;refine qS h Z (λ_ h=>?_) λ_ h=>?_
 ·refine aX<|aD Z<|aQ<|aT<|aJ ?_;cases h;exact lY Z
 refine cK<|aX<|cM 1 Z<|cM 0 Z<|aB Z<|aB Z<|eO h λz A h=>aM (zBa Nx (Du U d e f g t k u z A) Z (iD [0,1,2,3,4,5] Z)) Z λD=>aD Z<|aQ<|aT ?_;cases h;exact lY Z
def AT  (a:bV):Option bV:=
 some (a)
def wC (c:bV) (a:bV×Int) (b:(bV×Int)->Option bV):Option bV:=
 if a.2<(c.length:Int)then(ck (0<=a.2∧a.2<(c.length:Int)) (ck ((List.length ([]:cC):Int)+((at' c a.2).length:Int)<=1099511627) (ck ((a.1.length:Int)+(List.length ([(([]:cC)++(at' c a.2))]):Int)<=1099511627) (b ((a.1++([(([]:cC)++(at' c a.2))])),(wI .i64 (a.2+(1:Int))))))))else(AT  (a.1))
def lW (U:Nat) (a:bV):Option bV:=
 bP (wC a) U (([]:bV),(0:Int))
theorem HP:bD Tryz.prog 105:=Tryz.call105
theorem zZ (U:Nat) {o:bV} (v:Value)  (z:mR) (r:bV) (h:lW U o=some r):
  bG Tryz.prog 105 #[v] [S2 aP v z o] (λx:Ha=>x.1) (λx l=>Ar aE x.1 x.2::gN iF x.2 r::l) (λ_ l=>l):=by
 refine bG.of Tryz.func105 Z Tryz.ntmps105 Z λc=>?_;unfold lW at h;refine aX<|aD Z<|aQ<|aX<|aD Z<|aQ<|aN<|LS (B:=Ha) (λm=>AT  m=some r) (λm g=>[(3,g.1)]) (λm g=>[Ar aE g.1 g.2,gN iF g.2 m]) ?_ ?_
 ·refine aX<|aD Z<|aQ<|aW<|cD (iM aE) (cD (l_ iF) ?_);refine fJ (B:=Ha) (wC o) (λb a=>[(0,v),(3,a.1),(4,vI (b.2))]) (λb a=>[Ar aE a.1 a.2,gN iF a.2 b.1]) (([]:bV),(0:Int)) ((cY),([]:fM)) h SF (a_.ix [1,0] Z Z) ?_;intro w b a h;refine aN<|aX<|aB Z<|aB Z<|aC (dD Z (aA.fact 0 Z) Z) Z<|cX Z<|aQ ?_;refine eJ h Z (λh=>?_) λh=>?_
  ·refine cK<|aN<|aW<|aU<|aB Z<|aB Z<|aB Z<|cQ h λd h=>aC (bH Z Z (aA.fact 0 Z) Z Z d) Z<|aC (bS Z (aA.fact 0 Z) Z Z d) Z<|cD (iM iF)<|cQ h λp h=>aM (jZ 0 iH Z Z Z (zBb (aA.fact 0 Z) d.1 d.2) Z Z Z Z p Z) Z λf=>cD (l_ iF)<|bB (Know.one ((dM (aA.res 1 Z) iH))) λk=>cD (Cj 0 1 Z Z Z) ?_;refine aM (dK (e:=aE) [f] [(0,f)] Z Z Z Z (rT (f) k) Z Z (by simp[cellsOf,aE,k])) Z λy=>?_;refine bB (dC 3 Z) λi=>bB (dC 1 Z) λj=>cQ h λn h=>cD (Bm 3 1 Z Z Z) ?_;refine aM (aS.append 1 0 Z Z Z Z Z Z Z (by have q:=n;have s:=i;have t:=j;(try simp only[zAf,zAt]at q s t ⊢);omega) (by have q:=n;have s:=i;have t:=j;(try simp only[zAf,zAt]at q s t ⊢);omega) Z) Z λu=>?_;refine aD Z<|fU<|lJ<|aU<|aB Z<|cW Z<|aD Z<|aQ ?_;exact kG ((b.1++([(([]:cC)++(at' o b.2))])),(wI .i64 (b.2+(1:Int)))) (u,(a.2++[f])) h SF (a_.ix [1,2] Z Z) (aI.refl _ _)
  refine fF ?_;exact gJ (b.1) (a.1,a.2) h SF Z
 intro m g h;unfold AT at h;refine aX<|aB Z<|aD Z<|aQ<|aT ?_;cases h;exact pL (g.1,g.2) Z Z (RV.tmp Z) (a_.refl _) aI.nil
end Go.Proofs.YtflciafboapaaaaGreat
namespace Go.Proofs.YtflciafboapaaaaGreat
open Go Go.Sx
theorem Us {g:GR} (a:VG g) {f:Nat} (e:30<=f):lO f g=some (kT g g.1.length):=by
 have d:=a.n24;have b:=a.len;unfold lO;refine dO (F:=λk:Nat=>((kT g k,(k:Int)):gC)) g.1.length (λk c h=> ?_) (λc=> ?_) f (by omega)
 ·unfold sR;simp only;rw[if_pos (by omega),cO (by omega),wr (by omega) (by omega)];rfl
 ·unfold sR sQ;simp only;rw[if_neg (by omega)]
theorem Ut {g:GR} (a:VG g):lO 1000 g=some (kT g g.1.length):=Us a (by omega)
section
variable {p:Ee} {g:GR} {R:List RL} {c:List (List Int)} {v:Nat}
theorem Pq (b:VG g) (j:gV g p.2.1) {x:Nat} (k:x<p.2.1.length) (r:v<g.2.length):jG 1000 p g (v:Int) (x:Int)=some (pI g p.2.1 v x):=by
 obtain⟨⟨s,t⟩,⟨l,m⟩,n,o⟩:=j.small x k;have f:=j.kind x k;have q:=b.n24;have i:=b.len;have d:=KZ b g.1.length (by omega);show jG 1000 p g (v:Int) (x:Int)=some (lo g (at' p.2.1 (x:Int)) v,hi g (at' p.2.1 (x:Int)) v);unfold jG;generalize u:at' p.2.1 (x:Int)=y at s t l m n o f;have w:0<=y.2.2.2.2.1*(g.2.length:Int):=Int.mul_nonneg l (by omega);have z:y.2.2.2.2.1*(g.2.length:Int)<=100000*24:=Int.mul_le_mul m (by omega) (by omega) (by omega);have A:0<=y.2.2.2.2.2*kT g g.1.length:=Int.mul_nonneg n d.1;have B:y.2.2.2.2.2*kT g g.1.length<=100000*255:=Int.mul_le_mul o d.2 d.1 (by omega);have a:0<=(x:Int)∧(x:Int)<(p.2.1.length:Int):=by omega
 rw[cO a];unfold lo hi;rcases f with h|h|h
 ·simp only[h];rw[if_neg (by decide),if_neg (by decide),cO a,cO a,cO a,cO a,bN (Ut b),if_neg (by decide),if_neg (by decide),if_neg (by decide),if_neg (by decide),wr (x:=y.2.2.2.2.1*_) (by omega) (by omega),wr (x:=y.2.2.2.2.2*_) (by omega) (by omega),wr (x:=y.2.2.2.1+_) (by omega) (by omega),wr (by omega) (by omega)]
 ·simp only[h];rw[if_pos trivial,if_pos trivial,if_pos trivial]
 ·have e:=(b.node v r).deg;simp only[h];rw[if_neg (by decide),if_pos trivial,cO (by omega),if_neg (by decide),if_pos trivial,if_neg (by decide),if_pos trivial];show some ((-1:Int),wI .i64 (((row g v).length:Int) - 1))=_;rw[wr (by omega) (by omega)]
theorem WJ (b:VG g) (d:gV g p.2.1):oV 1000 p g=some 0:=by
 have l:=b.n1;have j:=d.len;unfold oV;rw[bN (show Dp 1000 _=some true from rfl),if_neg (by decide),bN (show jV 1000 g=some true from(Oe g).1 b),if_neg (by decide)];refine dO (step:=sE 1000 p g) (K:=some 0) p.2.1.length (λk=>(k:Int)) (λk f e=> ?_) (λf=> ?_) 1000 (by omega)
 ·unfold sE AS;rw[if_pos (by omega),bN (show jG 1000 _ _ (0:Int) (k:Int)=_ from Pq b d e (v:=0) (by omega)),cO (by omega),dJ (by omega)];by_cases a:(at' p.2.1 (k:Int)).2.1=1
  ·obtain⟨m,n,o⟩:=d.range k e a;rw[if_pos a];have h:(pI g p.2.1 0 k).1=lo g (at' p.2.1 (k:Int)) 0:=rfl;have i:(pI g p.2.1 0 k).2=hi g (at' p.2.1 (k:Int)) 0:=rfl;rw[h,i,wr (by omega) (by omega),bN (jA 1000 _ _ _),zA4 (by omega),if_neg (by decide)]
  ·rw[if_neg a,if_neg (by decide)]
 ·unfold sE AR;rw[if_neg (by omega)]
theorem We (b:VG g) (h:gV g p.2.1) (d:Yu g c p.2.1):kO 1000 p g c=some 0:=by
 have l:=b.n24;have e:=d.len;have n:=h.len;unfold kO;rw[bN (show oV 1000 _ _=some 0 from WJ b h),if_neg (by decide),if_neg (by simp[e])];refine dO (step:=kU 1000 p g c) (K:=some 0) g.2.length (λk=>(k:Int)) (λk i f=> ?_) (λi=> ?_) 1000 (by omega)
 ·have r:=d.row k f;unfold kU;rw[if_pos (by omega),cO (by omega),if_neg (by omega)];refine dO (step:=nO 1000 p g c (k:Int) i) p.2.1.length (λx=>(x:Int)) (λx a j=> ?_) (λa=> ?_) 1000 (by omega)
  ·obtain⟨o,q⟩:=d.ok k f x j;unfold nO;have m:decide ((pI g p.2.1 k x).1<=at' (at' c (k:Int)) (x:Int)∧at' (at' c (k:Int)) (x:Int)<=(pI g p.2.1 k x).2)=true:=zA4 ⟨o,q⟩;rw[cO (by omega),if_pos (by omega),bN (show jG 1000 _ _ (k:Int) (x:Int)=_ from Pq b h j f),cO (by omega),cO (by omega),bN (jA 1000 _ _ _),m,if_neg (by decide),dJ (by omega)]
  ·unfold nO tZ;rw[cO (by omega),if_neg (by omega),dJ (by omega)]
 ·unfold kU tY;rw[if_neg (by omega)]
theorem SN (c:List (List Int)) (h:c.length<=900) (d:∀v,v<c.length->(at' c (v:Int)).length<=1000):lW 1000 c=some c:=by
 unfold lW;refine dO (step:=wC c) (K:=some c) c.length (λk=>(c.take k,(k:Int))) (λk b a=> ?_) (λb=> ?_) 1000 (by omega)
 ·have:=d k a;unfold wC;dsimp only;rw[if_pos (by omega),cO (by omega),cO (by simp;omega),cO (by simp;omega),List.nil_append,oL a,dJ (by omega)]
 ·unfold wC AT;dsimp only;rw[if_neg (by omega),zB4]
def Fh (p:Ee) (g:GR) (R:List RL):Prop:=∀c,Yu g c p.2.1->∀v:Nat,v<g.2.length->∀r∈R,fK 1000 g c (v:Int) (-1) r.1.ts 0=some (DG (eT p g) c v r.1)∧∀s∈r.2,fK 1000 g c (v:Int) (-1) s.2.ts 0=some (DG (eT p g) c v s.2)
theorem Ra (x:Fh p g R) (z:Yu g c p.2.1) (B:v<g.2.length) (t:p.2.2.map pK=Aw R) (y:kF p.2.1.length R=true):kP 1000 p g c (v:Int)=some (sB (eT p g) R c v):=by
 have D:=DT t;have w:=Tq y;let l:=R.map λr=>DG (eT p g) c v r.1;have A:l.length=R.length:=by simp[l]
 have n:∀i,i<R.length->at' l (i:Int)=DG (eT p g) c v (at' R (i:Int)).1:=λi q=>by
  rw[jU (by omega),jU q];simp[l]
 have d:∀(k:Nat) a,k<R.length->t_ 1000 p g c (v:Int) (k:Int) a=if at' l (k:Int)≠0 then some (k:Int)else a (((k+1:Nat):Int)):=by
  intro k a b;have e:(at' p.2.2 (k:Int)).2.1.2=(at' R (k:Int)).1.ts:=congrArg Prod.fst (Kd t b);unfold t_;rw[if_pos (by omega),cO (by omega),e,bN (show fK 1000 _ c (v:Int) (-1) _ 0=_ from(x c z v B _ (by rw[jU b];exact List.getElem_mem b)).1),n k b,dJ (by omega)]
 unfold kP sB;by_cases f:∃i,i<R.length∧at' l (i:Int)≠0
 ·obtain⟨i,q,u⟩:=f;obtain⟨m,C,o,h⟩:=ML (p:=λi=>at' l (i:Int)≠0) i u;have h:∀j,j<m->at' l (j:Int)=0:=λj s=>zAw.1 (h j s);rw[show Co _=(m:Int)from Dd (l:=l) (by omega) o h];exact dO (K:=some (m:Int)) m (λk=>(k:Int)) (λk a b=>by rw[d k a (by omega),if_neg (by simp[h k b])]) (λa=>by rw[d m a (by omega),if_pos o]) 1000 (by omega)
 ·have f:∀j,j<l.length->at' l (j:Int)=0:=λj s=>zAw.1 λe=>f ⟨j,by omega,e⟩;rw[show Co _=(-1:Int)from Dc (l:=l) f];exact dO (K:=some (-1)) R.length (λk=>(k:Int)) (λk a b=>by rw[d k a b,if_neg (by simp[f k (by omega)])]) (λa=>by
   unfold t_ zB;rw[if_neg (by omega)]) 1000 (by omega)
theorem abS (k:VG g) (i:gV g p.2.1) {x:Nat} (j:x<p.2.1.length) (l:v<g.2.length) (y:Int):vY 1000 p g (v:Int) (x:Int) y=some (Ft (at' p.2.1 (x:Int)).2.1 (pI g p.2.1 v x) y):=by
 have e:=aaT i j v;have f:(pI g p.2.1 v x).1<=(pI g p.2.1 v x).2:=e;unfold vY;rw[bN (show jG 1000 _ _ (v:Int) (x:Int)=_ from Pq k i j l),cO (by omega)];generalize pI g p.2.1 v x=b at f;unfold yX Ft;by_cases d:(at' p.2.1 (x:Int)).2.1=3
 ·rw[if_pos d,bN (jA 1000 _ _ _)];by_cases a:b.1<=y∧y<=b.2
  ·rw[zA4 a,if_neg (by decide),if_pos a,Int.max_eq_left a.1,Int.min_eq_left a.2]
  ·rw[zA3 a,if_pos (by decide),if_neg a,if_pos d]
 ·rw[if_neg d,if_neg (by decide)];by_cases a:b.1<=y∧y<=b.2
  ·rw[if_pos a,Int.max_eq_left a.1,Int.min_eq_left a.2]
  ·rw[if_neg a,if_neg d];by_cases h:y<b.1
   ·rw[if_pos h,Int.max_eq_right (by omega),Int.min_eq_left f]
   ·rw[if_neg h,Int.max_eq_left (by omega),Int.min_eq_right (by omega)]
theorem adP (E:VG g) (F:gV g p.2.1) (C:Fh p g R) (t:Yu g c p.2.1) (u:v<g.2.length) (z:p.2.2.map pK=Aw R) (D:kF p.2.1.length R=true) (P:0<=sB (eT p g) R c v):yQ 1000 p g c (v:Int)=some (MP (eT p g) p.2.1 R c v (sB (eT p g) R c v)):=by
 have I:=E.n24;have J:=t.len;have n:=t.row v u;have O:=F.len;have Q:=DT z;unfold yQ;rw[cO (by omega),cO (by simp;omega),bN (show kP 1000 _ _ c (v:Int)=_ from Ra C t u z D),List.nil_append];obtain⟨i,L,b,_⟩:=(Lj (eT p g) R c v).resolve_left (λe=>by omega);rw[L,cO (by omega)];have x:=Kd z b;obtain⟨-,o,f⟩:=Kg D b;have A:(at' p.2.2 (i:Int)).2.2.2.map (λs=>(s.1,s.2.2))=(at' R (i:Int)).2.map λs=>((s.1:Int),s.2.ts):=congrArg Prod.snd x;have r:(at' p.2.2 (i:Int)).2.2.2.length=(at' R (i:Int)).2.length:=by simpa using congrArg List.length A
 unfold MP;let a:=(at' R (i:Int)).2;exact dO (step:=wF 1000 p g c (v:Int) (i:Int)) (K:=some (a.foldl (JI (eT p g) p.2.1 c v) (at' c (v:Int)))) a.length (λk=>((k:Int),(a.take k).foldl (JI (eT p g) p.2.1 c v) (at' c (v:Int)))) (λk H h=>by
  have m:k<(at' p.2.2 (i:Int)).2.2.2.length:=by rw[r];exact h
  have B:((at' (at' p.2.2 (i:Int)).2.2.2 (k:Int)).1,(at' (at' p.2.2 (i:Int)).2.2.2 (k:Int)).2.2)=(((at' a (k:Int)).1:Int),(at' a (k:Int)).2.ts):=by
   have:=congrArg (λq=>q[k]?) A;simp only[List.getElem?_map,zA2 m,zA2 (show k<(at' R (i:Int)).2.length from h),Option.map_some,Option.some.injEq]at this;rw[jU m,jU h];exact this
  have j:=congrArg Prod.fst B;have l:=congrArg Prod.snd B;dsimp only at j l;have d:at' a (k:Int)∈(at' R (i:Int)).2:=by rw[jU h];exact List.getElem_mem h
  obtain⟨y,M⟩:=f _ d;have G:((a.take k).foldl (JI (eT p g) p.2.1 c v) (at' c (v:Int))).length=p.2.1.length:=by rw[PX,n]
  have N:a.length<=20:=o;have w:=(C c t v u _ (by rw[jU b];exact List.getElem_mem b)).2 _ d;unfold wF;dsimp only;rw[if_pos (by omega)];simp only[cO (show 0<=(k:Int)∧(k:Int)<((at' p.2.2 (i:Int)).2.2.2.length:Int) by omega)];rw[j,l,bN (show fK 1000 _ c (v:Int) (-1) _ 0=_ from w),bN (show vY 1000 _ _ (v:Int) _ _=_ from abS E F y u _),cO (by omega),dJ (by omega),zAe,oL h,List.foldl_append];rfl) (λH=>by
  unfold wF A_;dsimp only;rw[if_neg (by show¬(a.length:Int)<_;rw[r];exact Int.lt_irrefl _),zB4]) 1000 (by show(at' R (i:Int)).2.length<1000;omega)
end
abbrev xX:=gX
def xW (g:GR) (v i:Nat):Nat:=(jL (row g v) i).1.toNat
def Gu (g:GR) (v i:Nat):Nat:=(AA (row g (xW g v i)) (v:Int)).toNat
structure PB (g:GR) (v i u b:Nat):Prop where
 ul:u<g.2.length
 bl:b<(row g u).length
 ne:u≠v
 tu:xW g u b=v
 bu:Gu g u b=i
theorem uE {g:GR} (hV:VG g) {v i:Nat} (hv:v<g.2.length) (hi:i<(row g v).length):(jL (row g v) i).1=(xW g v i:Int):=by
 have:=((hV.node v hv).links i hi).1;unfold xW;omega
theorem aas {g:GR} (hV:VG g) {v i j:Nat} (hv:v<g.2.length) (hi:i<(row g v).length) (hj:j<(row g v).length) (h:xW g v i=xW g v j):i=j:=by
 have a:=uE hV hv hi;have b:=uE hV hv hj;rcases Nat.lt_trichotomy i j with q|q|q
 ·exact absurd (by omega) (((hV.node v hv).links j hj).2.2.2 i q)
 ·exact q
 ·exact absurd (by omega) (((hV.node v hv).links i hi).2.2.2 j q)
theorem Bt {g:GR} (hV:VG g) {v i:Nat} (hv:v<g.2.length) (hi:i<(row g v).length):PB g v i (xW g v i) (Gu g v i):=by
 have e:=uE hV hv hi;have hl:=(hV.node v hv).links i hi;have hu:xW g v i<g.2.length:=by have:=hl.1;omega
 obtain⟨j,hj,hjv,_⟩:=hV.sym v hv i hi;have hr:at' g.2 (jL (row g v) i).1=row g (xW g v i):=by rw[e]
 rw[hr]at hj hjv;rcases uV (row g (xW g v i)) (v:Int)with⟨k,hk,hkv,hkf,hke⟩|⟨hf,_⟩
 rotate_left
 ·exact absurd hjv (hf j hj)
 have hb:Gu g v i=k:=by unfold Gu;rw[hke];omega
 have ht:xW g (xW g v i) k=v:=by unfold xW at hkv ⊢;rw[hkv];omega
 have hne:xW g v i≠v:=λq=>hl.2.1 (by rw[e,q]);refine⟨hu,by omega,hne,by rw[hb];exact ht,?_⟩
 rw[hb];have q:Gu g (xW g v i) k=(AA (row g v) (xW g v i:Int)).toNat:=by unfold Gu;rw[ht]
 rw[q,Jz i hi e λz hz hq=> ?_]
 ·omega
 ·have:=aas hV hv (show z<(row g v).length by omega) hi (by have:=uE hV hv (show z<(row g v).length by omega);omega);omega
abbrev nZ {a:Type} [Inhabited a] (l:List (List a)) (v i:Nat):a:=at' (at' l (v:Int)) (i:Int)
def Hu {a:Type} [Inhabited a] (l:List (List a)) (v i:Nat) (x:a):List (List a):=l.set v ((at' l (v:Int)).set i x)
section
variable {α:Type} [Inhabited α]
theorem XI (l:List (List α)) (v i:Nat) (x:α):(Hu l v i x).length=l.length:=by simp[Hu]
theorem XJ (l:List (List α)) {v i:Nat} (x:α) (a:v<l.length) (w:Nat):(at' (Hu l v i x) (w:Int)).length=(at' l (w:Int)).length:=by
 unfold Hu;rw[BC _ _ _ _ a];split
 ·rename_i e;subst e;simp
 ·rfl
theorem aaw (l:List (List α)) {v i:Nat} (x:α) (b:v<l.length) (a:i<(at' l (v:Int)).length) (w j:Nat):nZ (Hu l v i x) w j=if w=v∧j=i then x else nZ l w j:=by
 unfold nZ Hu;rw[BC _ _ _ _ b];by_cases e:w=v
 ·subst e;rw[if_pos Z,BC _ _ _ _ a];by_cases q:j=i
  ·rw[if_pos q,if_pos ⟨rfl,q⟩]
  ·rw[if_neg q,if_neg (λh=>q h.2)]
 ·rw[if_neg e,if_neg (λh=>e h.1)]
end
structure Sh2 {α:Type} [Inhabited α] (g:GR) (l:List (List α)):Prop where
 len:l.length=g.2.length
 row:∀v,v<g.2.length->(at' l (v:Int)).length=(row g v).length
theorem Sh2.set {a:Type} [Inhabited a] {g:GR} {l:List (List a)} (h:Sh2 g l) {v i:Nat} (b:v<g.2.length) (x:a):Sh2 g (Hu l v i x):=
 ⟨by rw[XI];exact h.len,λw c=>by rw[XJ _ _ (by rw[h.len];exact b)];exact h.row w c⟩
theorem Sh2.at {a:Type} [Inhabited a] {g:GR} {l:List (List a)} (h:Sh2 g l) {v i:Nat} (b:v<g.2.length) (c:i<(Go.Proofs.YtflciafboapaaaaGreat.row g v).length) (x:a) (w j:Nat):nZ (Hu l v i x) w j=if w=v∧j=i then x else nZ l w j:=
 aaw l x (by rw[h.len];exact b) (by rw[h.row v b];exact c) w j
structure SH (g:GR) (y:xX):Prop where
 c:y.1.length=g.2.length
 a:Sh2 g y.2.1
 w:Sh2 g y.2.2
def vwN (g:GR) (y:xX) (v:Nat):Nat->List (List Int)
 |0=>y.1
 |i+1=>(vwN g y v i).set (xW g v i) (nZ y.2.1 v i)
def vw (g:GR) (y:xX) (v:Nat):List (List Int):=vwN g y v (row g v).length
theorem Gp (g:GR) (y:xX) (v:Nat):∀i,(vwN g y v i).length=y.1.length
 |0=>rfl
 |i+1=>by simp[vwN,Gp g y v i]
theorem OI {g:GR} (hV:VG g) {y:xX} (h:SH g y) {v:Nat} (hv:v<g.2.length):∀i,i<=(row g v).length->at' (vwN g y v i) (v:Int)=at' y.1 (v:Int)
 |0,_=>rfl
 |i+1,hi=>by
  have hu:=Bt hV hv (show i<(row g v).length by omega);show at' ((vwN g y v i).set (xW g v i) _) (v:Int)=_;rw[BC _ _ _ _ (by rw[Gp,h.c];exact hu.ul),if_neg (λe=>hu.ne e.symm)];exact OI hV h hv i (by omega)
theorem TM {g:GR} (hV:VG g) {y:xX} (h:SH g y) {v:Nat} (hv:v<g.2.length) (P:Nat->List Int->Prop) (hc:∀x,x<g.2.length->P x (at' y.1 (x:Int))) (hb:∀i,i<(row g v).length->P (xW g v i) (nZ y.2.1 v i)):∀i,i<=(row g v).length->∀x,x<g.2.length->P x (at' (vwN g y v i) (x:Int))
 |0,_,x,hx=>hc x hx
 |i+1,hi,x,hx=>by
  have hu:=Bt hV hv (show i<(row g v).length by omega);show P x (at' ((vwN g y v i).set (xW g v i) _) (x:Int));rw[BC _ _ _ _ (by rw[Gp,h.c];exact hu.ul)];by_cases e:x=xW g v i
  ·rw[if_pos e,e];exact hb i (by omega)
  ·rw[if_neg e];exact TM hV h hv P hc hb i (by omega) x hx
def yD (g:GR) (a:Bool) (y:xX) (v i:Nat):xX:=
 match nZ y.2.2 (xW g v i) (Gu g v i)with
 | []=>y
 |s::r=>(y.1,if a=true then Hu y.2.1 v i s else y.2.1,Hu y.2.2 (xW g v i) (Gu g v i) r)
def Dg (a:Nat) (y:xX) (v i:Nat):xX:=if(nZ y.2.2 v i).length<a then(y.1,y.2.1,Hu y.2.2 v i (nZ y.2.2 v i++[at' y.1 (v:Int)]))else y
def Nu (g:GR) (a:List (List Int)->Nat->List Int) (y:xX) (v:Nat):xX:=(y.1.set v (a (vw g y v) v),y.2.1,y.2.2)
def DR (g:GR) (b:List (List Int)->Nat->List Int) (a:Nat) (y:xX) (e:Nat×Nat×Nat):xX:=
 if e.1=1 then Nu g b y e.2.1 else if e.1=2 then Dg a y e.2.1 e.2.2 else yD g (decide (e.1=3)) y e.2.1 e.2.2
def abl (g:GR) (e:Nat×Nat×Nat):Prop:=(1<=e.1∧e.1<=4)∧e.2.1<g.2.length∧(e.1=1∨e.2.2<(row g e.2.1).length)
structure LK (g:GR) (P:Nat->List Int->Prop) (y:xX):Prop where
 c:∀v,v<g.2.length->P v (at' y.1 (v:Int))
 a:∀v i,v<g.2.length->i<(row g v).length->P (xW g v i) (nZ y.2.1 v i)
 w:∀v i,v<g.2.length->i<(row g v).length->∀s,s∈nZ y.2.2 v i->P v s
def Cap (g:GR) (a:Nat) (y:xX):Prop:=∀v i,v<g.2.length->i<(row g v).length->(nZ y.2.2 v i).length<=a
section
variable {g:GR} {nx:List (List Int)->Nat->List Int} {cap:Nat} {P P':Nat->List Int->Prop} {y:xX} {v i:Nat}
theorem ZT (hV:VG g) (h:SH g y) (hv:v<g.2.length) (hi:i<(row g v).length) {k:Bool}:SH g (yD g k y v i):=by
 have hp:=Bt hV hv hi;unfold yD;split
 ·exact h
 ·refine⟨h.c,?_,h.w.set hp.ul _⟩
  dsimp only;split
  ·exact h.a.set hv _
  ·exact h.a
theorem WR (hV:VG g) (h:SH g y) (hv:v<g.2.length) (hi:i<(row g v).length) {k:Bool} (w j:Nat):nZ (yD g k y v i).2.2 w j=if w=xW g v i∧j=Gu g v i then(nZ y.2.2 w j).tail else nZ y.2.2 w j:=by
 have hp:=Bt hV hv hi;unfold yD;split
 ·rename_i e;by_cases q:w=xW g v i∧j=Gu g v i
  ·rw[if_pos q,q.1,q.2,e];rfl
  ·rw[if_neg q]
 ·rename_i s r e;dsimp only;rw[h.w.at hp.ul hp.bl];by_cases q:w=xW g v i∧j=Gu g v i
  ·rw[if_pos q,if_pos q,q.1,q.2,e];rfl
  ·rw[if_neg q,if_neg q]
theorem acn {k:Bool}:(yD g k y v i).1=y.1:=by unfold yD;split<;>rfl
theorem acm (d:VG g) (h:SH g y) (c:v<g.2.length) (b:i<(row g v).length) {k:Bool} (w j:Nat):nZ (yD g k y v i).2.1 w j=if w=v∧j=i then(if k=true then(nZ y.2.2 (xW g v i) (Gu g v i)).headD (nZ y.2.1 v i)else nZ y.2.1 v i)else nZ y.2.1 w j:=by
 unfold yD;split
 ·rename_i e;by_cases q:w=v∧j=i
  ·rw[if_pos q,q.1,q.2,e];split<;>rfl
  ·rw[if_neg q]
 ·rename_i s r e;dsimp only;cases k with
  |false=>
   rw[if_neg (by decide)];by_cases q:w=v∧j=i
   ·rw[if_pos q,q.1,q.2,if_neg (by decide)]
   ·rw[if_neg q]
  |true=>
   rw[if_pos Z,h.a.at c b];by_cases q:w=v∧j=i
   ·rw[if_pos q,if_pos q,if_pos Z,e];rfl
   ·rw[if_neg q,if_neg q]
theorem WP (hV:VG g) (h:SH g y) (hv:v<g.2.length) (hi:i<(row g v).length) (hA:LK g P y) {k:Bool}:LK g P (yD g k y v i):=by
 have hp:=Bt hV hv hi;refine⟨λx hx=>by rw[acn];exact hA.c x hx,λw j hw hj=> ?_,λw j hw hj s hs=> ?_⟩
 ·rw[acm hV h hv hi];by_cases q:w=v∧j=i
  ·rw[if_pos q,q.1,q.2];split
   ·cases e:nZ y.2.2 (xW g v i) (Gu g v i)with
    |nil=>exact hA.a v i hv hi
    |cons s r=>exact hA.w _ _ hp.ul hp.bl s (by rw[e];exact zAc)
   ·exact hA.a v i hv hi
  ·rw[if_neg q];exact hA.a w j hw hj
 ·rw[WR hV h hv hi]at hs;split at hs
  ·exact hA.w w j hw hj s (List.mem_of_mem_tail hs)
  ·exact hA.w w j hw hj s hs
theorem WQ (b:VG g) (h:SH g y) (e:v<g.2.length) (c:i<(row g v).length) (a:Cap g cap y) {k:Bool}:Cap g cap (yD g k y v i):=λw j f d=>by
 have:=a w j f d;rw[WR b h e c];split
 ·rw[List.length_tail];omega
 ·exact this
theorem aaB (h:SH g y) (b:v<g.2.length):SH g (Dg cap y v i):=by
 unfold Dg;split
 ·exact⟨h.c,h.a,h.w.set b _⟩
 ·exact h
theorem XR (h:SH g y) (b:v<g.2.length) (a:i<(row g v).length) (w j:Nat):nZ (Dg cap y v i).2.2 w j=if w=v∧j=i∧(nZ y.2.2 v i).length<cap then nZ y.2.2 v i++[at' y.1 (v:Int)]else nZ y.2.2 w j:=by
 unfold Dg;by_cases q:(nZ y.2.2 v i).length<cap
 ·rw[if_pos q];dsimp only;rw[h.w.at b a];by_cases z:w=v∧j=i
  ·rw[if_pos z,if_pos ⟨z.1,z.2,q⟩]
  ·rw[if_neg z,if_neg (λe=>z ⟨e.1,e.2.1⟩)]
 ·rw[if_neg q,if_neg (λe=>q e.2.2)]
theorem Tz:(Dg cap y v i).1=y.1∧(Dg cap y v i).2.1=y.2.1:=by unfold Dg;split<;>exact⟨rfl,rfl⟩
theorem XP (h:SH g y) (f:v<g.2.length) (l:i<(row g v).length) (d:LK g P y):LK g P (Dg cap y v i):=by
 refine⟨λx m=>by rw[Tz.1];exact d.c x m,λw j k e=>by rw[Tz.2];exact d.a w j k e,λw j k e s b=> ?_⟩
 rw[XR h f l]at b;split at b
 ·rename_i q;rcases List.mem_append.1 b with b|b
  ·rw[q.1];exact d.w v i f l s b
  ·rw[List.mem_singleton.1 b,q.1];exact d.c v f
 ·exact d.w w j k e s b
theorem XQ (h:SH g y) (d:v<g.2.length) (b:i<(row g v).length) (a:Cap g cap y):Cap g cap (Dg cap y v i):=λw j e c=>by
 have:=a w j e c;rw[XR h d b];split
 ·rename_i q;rw[zA9,List.length_singleton];omega
 ·exact this
theorem abz (h:SH g y):SH g (Nu g nx y v):=⟨by simpa [Nu]using h.c,h.a,h.w⟩
theorem adn (h:SH g y) (a:v<g.2.length) (x:Nat):at' (Nu g nx y v).1 (x:Int)=if x=v then nx (vw g y v) v else at' y.1 (x:Int):=BC _ _ _ _ (by rw[h.c];exact a)
theorem Jl (e:VG g) (h:SH g y) (d:v<g.2.length) (b:LK g P y):(vw g y v).length=g.2.length∧∀x,x<g.2.length->P x (at' (vw g y v) (x:Int)):=
 ⟨by unfold vw;rw[Gp,h.c],TM e h d P b.c (λi f=>b.a v i d f) _ (zAg _)⟩
theorem YE (f:VG g) (h:SH g y) (d:v<g.2.length) (b:LK g P y) (j:∀c:List (List Int),c.length=g.2.length->(∀x,x<g.2.length->P x (at' c (x:Int)))->∀v,v<g.2.length->P v (nx c v)):LK g P (Nu g nx y v):=by
 refine⟨λx k=> ?_,b.a,b.w⟩
 rw[adn h d];split
 ·rename_i e;rw[e];have:=Jl f h d b;exact j _ this.1 this.2 v d
 ·exact b.c x k
theorem Xk (d:VG g) (h:SH g y) (f:LK g P y) (j:Cap g cap y) {e:Nat×Nat×Nat} (l:abl g e) (m:∀c:List (List Int),c.length=g.2.length->(∀x,x<g.2.length->P x (at' c (x:Int)))->∀v,v<g.2.length->P v (nx c v)):SH g (DR g nx cap y e)∧LK g P (DR g nx cap y e)∧Cap g cap (DR g nx cap y e):=by
 obtain⟨⟨o,p⟩,a,n⟩:=l;unfold DR;by_cases q:e.1=1
 ·rw[if_pos q];exact⟨abz h,YE d h a f m,j⟩
 ·have b:=n.resolve_left q;rw[if_neg q];by_cases k:e.1=2
  ·rw[if_pos k];exact⟨aaB h a,XP h a b f,XQ h a b j⟩
  ·rw[if_neg k];exact⟨ZT d h a b,WP d h a b f,WQ d h a b j⟩
end
end Go.Proofs.YtflciafboapaaaaGreat
namespace Go.Proofs.YtflciafboapaaaaGreat
open Go.Sx
def tM (U:Nat) (a:fH) (b:cS) (c:bV):Option Bool:=
 Option.bind (mG U ((a.1,a.2.1,a.2.2)) ((b.1,b.2)) c) λd=>(some (decide (d=(0:Int))))
theorem abK:bD Tryz.prog 47:=Tryz.call47
theorem Lp (U:Nat) {a:fH} {g:cS} {j:bV} (b:Value)  (d:Value)  (e:Value)  (f:Value)  (k:kY)  (i:Value)  (m:mR) (r:Bool) (h:tM U a g j=some r):
  bG Tryz.prog 47 #[Value.agg #[vS (a.1),b,d],Value.agg #[e,f],i] [Sl aG b a.2.1,Sl aF d a.2.2,PF (Value.agg #[vS a.1,b,d]),Sl aP e g.1,S2 bA f k g.2,S2 aP i m j] (λx:Unit=>vB (r)) (λx l=>l) (λ_ l=>l):=by
 refine bG.of Tryz.func47 Z Tryz.ntmps47 Z λc=>?_;refine aX<|aM (aS.box (cs:=[vS (a.1),b,d]) Z Z) Z λp=>aM (aS.box (cs:=[e,f]) Z Z) Z λq=>aD Z<|aQ<|aX<|cM 1 Z<|cM 0 Z<|aB Z<|eO h λn o h=>aM (zBa VW (FP U b d e f k i m n o) Z (iD [0,1,2,3,4,5] Z)) Z λs=>cI Z<|aD Z<|aQ<|aT ?_;cases h;exact lY Z
def oI (U:Nat) (a:Int) (c:cC) (b:jR):Option Bool:=
 ck (0<=a∧a<(b.length:Int)) (Option.bind (tK U (at' b a) c) λd=>(some (d)))
theorem VP:bD Tryz.prog 49:=Tryz.call49
theorem EV (U:Nat) {d:Int} {f:cC} {g:jR} (e:Value)  (a:Nat)  (i:Value)  (j:kY) (r:Bool) (h:oI U d f g=some r):
  bG Tryz.prog 49 #[vI (d),e,vP a] [Sl aP e f,bO a [i] 86,S2 bA i j g] (λx:Unit=>vB (r)) (λx l=>l) (λ_ l=>l):=by
 refine bG.of Tryz.func49 Z Tryz.ntmps49 Z λc=>?_;refine aX<|aD Z<|aQ<|aX<|aC (fX Z (aA.fact 1 Z) Z Z Z) Z<|aB Z<|cQ h λb h=>aC (bH Z Z (aA.fact 2 Z) Z Z b) Z<|aC (bS Z (aA.fact 2 Z) Z Z b) Z<|aB Z<|eO h λk m h=>aM (zBa VQ (FQ U ((at' j d).1) e k m) Z (aI.cons (zBb (aA.fact 2 Z) b.1 b.2) (iD [0] Z))) Z λn=>aD Z<|aQ<|aT ?_;cases h;exact iJ Z
def zT  (a:Unit):Option Bool:=
 some (true)
def zU (b:Int) (a:(Int)->Option Bool) (c:Unit):Option Bool:=
 a (wI .i64 (b+(1:Int)))
def zX (b:Int) (a:(Int)->Option Bool) (c:Bool):Option Bool:=
 if c=true then(some (false))else(a (wI .i64 (b+(1:Int))))
def qP (b:Int) (a:(Int)->Option Bool) (c:Int):Option Bool:=
 zX b a (decide ((0:Int)<=c))
def uC (b:Int) (a:(Int)->Option Bool) (c:Unit):Option Bool:=
 qP b a (-1:Int)
def BG (d:Int) (b:(Int)->Option Bool) (a:Int) (c:(Int)->Option Bool) (e:Bool):Option Bool:=
 if e=true then(qP d b (a))else(c (wI .i64 (a+(1:Int))))
def qQ (U:Nat) (f:gX) (g:jR) (c:Int) (a:Int) (d:(Int)->Option Bool) (b:Int) (e:(Int)->Option Bool):Option Bool:=
 if b<((at' (at' f.2.2 c) a).length:Int)then(ck (0<=b∧b<((at' (at' f.2.2 c) a).length:Int)) (Option.bind (oI U c (at' (at' (at' f.2.2 c) a) b) g) λh=>(BG a d b e ((!h)))))else(uC a d (()))
def zW (U:Nat) (f:gX) (e:jR) (b:Int) (c:Int) (a:(Int)->Option Bool) (d:Bool):Option Bool:=
 if d=true then(some (false))else(bP (qQ U f e b c a) U (0:Int))
def jE (U:Nat) (g:cS) (i:Int) (d:gX) (e:jR) (a:Int) (f:(Int)->Option Bool) (b:Int) (c:(Int)->Option Bool):Option Bool:=
 if b<((at' g.2 a).length:Int)then(ck (0<=b∧b<((at' g.2 a).length:Int)) (ck (0<=a∧a<(d.2.2.length:Int)) (ck (0<=b∧b<((at' d.2.2 a).length:Int)) (ck (0<=a∧a<(d.2.1.length:Int)) (ck (0<=b∧b<((at' d.2.1 a).length:Int)) (Option.bind (oI U ((at' (at' g.2 a) b).1) (at' (at' d.2.1 a) b) e) λh=>(if(!h)=true then(zW U d e a b c (true))else(zW U d e a b c (decide (i<((at' (at' d.2.2 a) b).length:Int)))))))))))else(zU a f (()))
def zV (U:Nat) (e:cS) (f:Int) (g:gX) (d:jR) (b:Int) (a:(Int)->Option Bool) (c:Bool):Option Bool:=
 if c=true then(some (false))else(bP (jE U e f g d b a) U (0:Int))
def gT (U:Nat) (c:cS) (f:Int) (d:gX) (e:jR) (a:Int) (b:(Int)->Option Bool):Option Bool:=
 if a<(c.2.length:Int)then(ck (0<=a∧a<(c.2.length:Int)) (ck (0<=a∧a<(d.2.1.length:Int)) (if((at' d.2.1 a).length:Int)≠((at' c.2 a).length:Int)then(zV U c f d e a b (true))else(ck (0<=a∧a<(d.2.2.length:Int)) (zV U c f d e a b (decide (((at' d.2.2 a).length:Int)≠((at' c.2 a).length:Int))))))))else(zT  (()))
def zS (U:Nat) (a:fH) (b:cS) (e:Int) (f:gX) (d:Bool):Option Bool:=
 if d=true then(some (false))else(Option.bind (kS U ((a.1,a.2.1,a.2.2)) ((b.1,b.2))) λc=>(bP (gT U b e f c) U (0:Int)))
def uB (U:Nat) (c:fH) (a:cS) (d:Int) (b:gX) (e:Bool):Option Bool:=
 if e=true then(some (false))else(if(b.2.1.length:Int)≠(a.2.length:Int)then(zS U c a d b (true))else(zS U c a d b (decide ((b.2.2.length:Int)≠(a.2.length:Int)))))
def jX (U:Nat) (a:fH) (b:cS) (c:Int) (d:gX):Option Bool:=
 Option.bind (tM U ((a.1,a.2.1,a.2.2)) ((b.1,b.2)) d.1) λe=>(if(!e)=true then(uB U a b c d (true))else(if c<(1:Int)then(uB U a b c d (true))else(uB U a b c d (decide ((8:Int)<c)))))
theorem ND:bD Tryz.prog 18:=Tryz.call18
theorem Bh (U:Nat) {p0:fH} {p:cS} {w:Int} {v:gX} (M:Value)  (N:Value)  (v2:Value)  (L:Value)  (z4:kY)  (v5:Value)  (z6:mR)  (v7:Value)  (z8:BQ)  (v9:Value)  (G:BP) (r:Bool) (h:jX U p0 p w v=some r):
  bG Tryz.prog 18 #[Value.agg #[vS (p0.1),M,N],Value.agg #[v2,L],vI (w),Value.agg #[v5,v7,v9]] [Sl aG M p0.2.1,Sl aF N p0.2.2,PF (Value.agg #[vS p0.1,M,N]),Sl aP v2 p.1,S2 bA L z4 p.2,S2 aP v5 z6 v.1,S3 aP v7 z8 v.2.1,S4 aP v9 G v.2.2] (λx:Unit=>vB (r)) (λx l=>l) (λ_ l=>l):=by
 let Y:=S2 aP v5 z6 v.1;let X:=S2 bA L z4 p.2;let W:=S3 aP v7 z8 v.2.1;let V:=S4 aP v9 G v.2.2;let S:=PF (Value.agg #[vS p0.1,M,N]);let K:=(p.2.length:Int)
 refine bG.of Tryz.func18 Z Tryz.ntmps18 Z λc=>?_;refine aX<|aM (aS.box (cs:=[vS (p0.1),M,N]) Z Z) Z λb1=>aM (aS.box (cs:=[v2,L]) Z Z) Z λb2=>aM (aS.box (cs:=[v5,v7,v9]) Z Z) Z λb3=>let k:=bO b3 [v5,v7,v9] 43;aD Z<|aQ<|aN<|aN<|eG (λa5=>uB U p0 p w v a5=some r) (λa5 b6=>[(2,vI (w)),(4,vP b1),(5,vP b2),(7,vP b3),(29,vB (a5))]) (λa5 b6=>[k,bO b2 [v2,L] 31,bO b1 [vS (p0.1),M,N] 36]) ?_ ?_
 ·refine aU<|cM 2 Z<|cM 1 Z<|bX Z<|dU 0 Z<|eO h λa8 bd h=>aM (zBa abK (Lp U M N v2 L z4 v5 z6 a8 bd) Z (iD [0,1,2,3,4,5] Z)) Z λbh=>aC (iQ Z) Z<|aB Z ?_;refine qV (by exact rfl) (by exact rfl) (λR=>?_) (λR=>?_)
  ·have h:=Ff R h;refine aK Z<|aK Z<|dG Z<|aB Z<|aK Z<|aK Z<|dG Z<|aQ ?_;exact gJ (true) () h SF Z
  have h:=Cr R h;refine dH Z<|aR Z (EO Z Z) Z<|dR Z<|aB Z ?_;refine AL h Z (λ_ h=>?_) λ_ h=>?_
  ·refine aK Z<|aK Z<|dG Z<|aQ ?_;exact gJ (true) () h SF Z
  refine dH Z<|aR Z (sL Z Z) Z<|dR Z<|aQ ?_;exact gJ (decide ((8:Int)<w)) () h SF Z
 intro a5 b6 h;refine qS h Z (λ_ h=>?_) λ_ h=>?_
 ·refine aX<|aD Z<|aQ<|aT<|aJ ?_;cases h;exact lY Z
 refine cK<|aN<|aN<|eG (λa9=>zS U p0 p w v a9=some r) (λa9 ao=>[(2,vI (w)),(4,vP b1),(5,vP b2),(7,vP b3),(45,vB (a9))]) (λa9 ao=>[k,bO b2 [v2,L] 31,bO b1 [vS (p0.1),M,N] 36]) ?_ ?_
 ·refine aU<|bX Z<|dU 0 Z<|aC (dD Z (aA.fact 6 Z) Z) Z<|bX Z<|dU 1 Z<|aC (dD Z (aA.fact 4 Z) Z) Z<|kA Z<|aB Z ?_;refine AL h Z (λ_ h=>?_) λ_ h=>?_
  ·refine aK Z<|aK Z<|aK Z<|aK Z<|aK Z<|aK Z<|aK Z<|dG Z<|aQ ?_;exact gJ (true) () h SF Z
  refine aR Z (cT Z Z Z Z Z) Z<|aR Z (dQ 0 Z Z Z Z Z) Z<|aR Z (dD Z (aA.fact 7 Z) Z) Z<|aR Z (cT Z Z Z Z Z) Z<|aR Z (dQ 1 Z Z Z Z Z) Z<|aR Z (dD Z (aA.fact 4 Z) Z) Z<|aR Z (xQ Z Z) Z<|dR Z<|aQ ?_;exact gJ (decide ((v.2.2.length:Int)≠K)) () h SF Z
 intro a9 ao h;refine qS h Z (λ_ h=>?_) λ_ h=>?_
 ·refine aX<|aD Z<|aQ<|aT<|aJ ?_;cases h;exact lY Z
 refine cK<|aX<|cM 2 Z<|cM 1 Z<|eO h λm ba h=>aM (zBa QS (CJ U M N v2 L z4 m ba) Z (iD [0,1,2,3,4] Z)) Z λD=>let u:=gN bY D.2 m;let t:=Ar aE D.1 D.2;aM (aS.alloc (cs:=[cY]) Z Z) Z λJ=>let ak:=Value.pointer (some ⟨J,0,none⟩);let s:=bO J [D.1] 86;bB (Know.one (aA.sl (eV (i:=1) (j:=2) Z Z cF))) λa0=>sY 0 Z Z a0 Z Z Z<|aQ<|aX<|aC (Hf (cs:=[.tmp 9]) (vs:=[vP J]) Z) Z<|aM (aS.alloc (cs:=[Value.nilFunc]) Z Z) Z λe=>let q:=bO e [Value.func (.func 49) #[] #[vP J]] 90;sY 0 Z Z Z Z Z Z<|aQ<|aN<|eG (λaa=>zT  aa=some r) (λaa ap=>[]) (λaa ap=>[]) ?_ ?_
 ·refine aX<|bX Z<|dU 5 Z<|aC (dD Z (aA.fact 4 Z) Z) Z<|aB Z<|aQ<|aW<|fJ (gT U p w v m) (λa aq=>[(2,vI (w)),(7,vP b3),(10,vP e),(51,L),(52,vI K),(53,vI (a))]) (λa aq=>[q,s,t,u,k]) (0:Int) () h SF (a_.ix [0,1,2,3,4] Z Z) ?_;intro a3 a aq h;let T:=((at' p.2 a).length:Int)
  let ah:=(bP (gT U p w v m) a3)
  refine aX<|cX Z<|aQ<|aN ?_;refine eJ h Z (λh=>?_) λh=>?_
  ·refine cK<|aN<|eG (λab=>zU a ah ab=some r) (λab ar=>[(2,vI (w)),(7,vP b3),(10,vP e),(51,L),(52,vI K),(53,vI (a))]) (λab ar=>[q,s,t,u,k]) ?_ ?_
   ·refine aW<|aX<|aB Z<|cQ h λf h=>aC (bH Z Z (aA.fact 4 Z) Z Z f) Z<|aC (bS Z (aA.fact 4 Z) Z Z f) Z<|aM (aS.alloc (cs:=[vI (0:Int)]) Z Z) Z λo=>let C:=bO o [vI (a)] 3;sY 0 Z Z Z Z Z Z<|aD Z<|aQ<|aN<|aN<|eG (λO=>zV U p w v m a ah O=some r) (λO au=>[(2,vI (w)),(7,vP b3),(10,vP e),(11,vP o),(12,(at' z4 a).1),(51,L),(52,vI K),(53,vI (a)),(77,vB (O))]) (λO au=>[C,q,s,t,u,k]) ?_ ?_
    ·refine aU<|bX Z<|dU 5 Z<|dU 0 Z<|cQ h λaf h=>aC (bH Z Z (aA.fact 6 Z) Z Z af) Z<|aC (c_ Z (aA.fact 6 Z) Z Z af) Z ?_;refine aC (dD Z (bR (aA.fact 6 Z) af.1 af.2) Z) Z ?_;refine aB Z<|aC (fG Z (zBb (aA.fact 4 Z) f.1 f.2) Z) Z<|kA Z<|aB Z ?_;refine AL h Z (λ_ h=>?_) λ_ h=>?_
     ·refine aK Z<|aK Z<|aK Z<|aK Z<|aK Z<|aK Z<|aK Z<|aK Z<|aK Z<|dG Z<|aQ ?_;exact gJ (true) () h SF Z
     refine aR Z (cT Z Z Z Z Z) Z<|aR Z (dQ 5 Z Z Z Z Z) Z<|aR Z (dQ 0 Z Z Z Z Z) Z<|cQ h λag h=>aR Z (bH Z Z (aA.fact 7 Z) Z Z ag) Z<|aR Z (c_ Z (aA.fact 7 Z) Z Z ag) Z ?_;refine aR Z (dD Z (bR (aA.fact 7 Z) ag.1 ag.2) Z) Z ?_;refine dH Z<|aR Z (fG Z (zBb (aA.fact 4 Z) f.1 f.2) Z) Z<|aR Z (xQ Z Z) Z<|dR Z<|aQ ?_;exact gJ (decide (((at' v.2.2 a).length:Int)≠T)) () h SF Z
    intro O au h;refine qS h Z (λ_ h=>?_) λ_ h=>?_
    ·refine aX<|aD Z<|aQ<|aT<|aJ<|bF<|aJ<|aJ<|bF<|aJ ?_;cases h;exact lY Z
    refine cK<|aX<|aB Z<|aC (fG Z (zBb (aA.fact 4 Z) f.1 f.2) Z) Z<|aB Z<|aQ<|aW<|fJ (jE U p w v m a ah) (λb av=>[(2,vI (w)),(7,vP b3),(10,vP e),(11,vP o),(51,L),(52,vI K),(53,vI (a)),(78,(at' z4 a).1),(79,vI T),(80,vI (b))]) (λb av=>[C,q,s,t,u,k]) (0:Int) () h SF (a_.refl _) ?_;intro a4 b av h;let aj:=((at' (at' v.2.2 a) b).length:Int)
    let ai:=(at' ((at' G a).2) b)
    let F:=(bP (jE U p w v m a ah) a4)
    refine aX<|cX Z<|aQ<|aN ?_;refine eJ h Z (λh=>?_) λh=>?_
    ·refine cK<|aN<|aW<|aX<|aB Z<|cQ h λa1 h=>aC (bI Z Z (zBb (aA.fact 4 Z) f.1 f.2) Z Z a1) Z<|aC (gM (cs:=[vI ((at' (at' p.2 a) b).1),vI ((at' (at' p.2 a) b).2)]) Z (zBb (aA.fact 4 Z) f.1 f.2) cF Z Z Z Z a1) Z<|aM (aS.alloc (cs:=Qs) Z Z) Z λbf=>aD Z<|cA 0 (vs:=[vI ((at' (at' p.2 a) b).1),vI ((at' (at' p.2 a) b).2)]) Z Z Z Z Z Z<|aQ<|aX<|bX Z<|dU 6 Z<|dU 1 Z<|cQ h λd h=>aC (bH Z Z (aA.fact 7 Z) Z Z d) Z<|aC (c_ Z (aA.fact 7 Z) Z Z d) Z<|aB Z<|cQ h λg h=>aC (bH Z Z (bR (aA.fact 7 Z) d.1 d.2) Z Z g) Z ?_;refine aC (c_ Z (bR (aA.fact 7 Z) d.1 d.2) Z Z g) Z ?_;refine aD Z<|aQ<|aN<|aN<|eG (λP=>zW U v m a b F P=some r) (λP aw=>[(2,vI (w)),(7,vP b3),(10,vP e),(11,vP o),(15,ai.1),(51,L),(52,vI K),(53,vI (a)),(78,(at' z4 a).1),(79,vI T),(80,vI (b)),(111,vB (P))]) (λP aw=>[C,q,s,t,u,k]) ?_ ?_
     ·refine JR.start [0,0,2,0,8,0,56,120,0,504,1016,2047,4095,8191,16383,32767,16383,131071,262143] 17 mixedOrders (by decide +kernel) ?_;refine zBc (by exact rfl) ?_;refine eI 2 Z<|cB Z<|eI 0 Z<|cB Z<|eI 6 Z<|eI 1 Z<|cQ h λy h=>aY (cG (aA.fact 6 Z)) λaz=>e_ Z (cJ Z Z az Z Z y)<|bE Z .nil (fW 6 Z) (c_ Z (aA.fact 0 Z) Z Z y) aO.z<|aV Z<|cQ h λae h=>aY (cG (bR (aA.fact 6 Z) y.1 y.2)) λaH=>?_;refine e_ Z (cJ Z Z aH Z Z ae) ?_;refine bE Z .nil (fW 6 Z) (bS Z (bR (aA.fact 0 Z) y.1 y.2) Z Z ae) aO.z<|eO h λa7 bc h=>zBd Z Z Z (s_ (vs:=[vI ((at' (at' p.2 a) b).1),(at' ((at' z8 a).2) b).1]) (cs:=[ak]) VP Z (EV U ((at' ((at' z8 a).2) b).1) J D.1 (List.zip D.2 m) a7 bc) Z (aI.cons (zBb (bR (aA.fact 6 Z) y.1 y.2) ae.1 ae.2) (aI.cons (aA.res 3 Z) (aI.cons (eV (i:=4) (j:=5) Z Z cF) .nil))) (λ_ _=>rfl)) Z (λbe=>(pB [] Z)) λbe=>?_;refine e_ Z (iQ Z)<|e_ Z (dZ Z) ?_;refine JR.guard (by exact rfl) (by exact rfl) (by exact rfl) (λQ=>?_) (λQ=>?_)
      ·have h:=Ff Q h;refine aL Z Z Z Z<|aL Z Z Z Z<|aL Z Z Z Z<|bM 17 Z Z<|aK Z<|dG Z<|aQ ?_;exact cE (true) () h SF (a_.ix [1,2,3,4,5,6] Z Z) (aI.refl _ _)
      have h:=Cr Q h;refine bZ Z .nil .nil (dZ Z) (sU Z) ?_;refine bZ Z .nil (fW 7 Z) (dD Z (bR (bR (aA.fact 0 Z) d.1 d.2) g.1 g.2) Z) (sU Z) ?_;refine bZ Z .nil .nil (dZ Z) (sU Z)<|bM 17 Z Z<|aR Z (sL Z Z) Z<|dR Z<|aQ ?_;exact cE (decide (w<aj)) () h SF (a_.ix [1,2,3,4,5,6] Z Z) (aI.refl _ _)
     intro P aw h;refine qS h Z (λ_ h=>?_) λ_ h=>?_
     ·refine aX<|aD Z<|aQ<|aT<|aJ<|bF<|aJ<|aJ<|bF<|bF<|aJ<|aJ<|bF<|aJ ?_;cases h;exact lY Z
     refine cK<|aX<|aB Z<|aC (Hf (cs:=[.tmp 10,.tmp 11]) (vs:=[vP e,vP o]) Z) Z<|xZ (A:=Bool) (B:=Unit) (vs:=[(at' ((at' G a).2) b).1,Value.func (.func 52) #[] #[vP e,vP o]]) (λH=>zX b F H=some r) (λH al=>vB (H)) (λH al=>[C,q,s,t,u,k]) (λH al=>[Sl aG M p0.2.1,Sl aF N p0.2.2,S,Sl aP v2 p.1,X,Y,W,V]) (oB.fn (show bD Tryz.prog 51 from Tryz.call51) Z) Tryz.func51 Z Tryz.ntmps51 Z Z ?_ ?_
     ·refine aX<|aD Z<|aQ<|aX<|aB Z<|aB Z<|xZ (A:=Int) (B:=Unit) (vs:=[(at' ((at' G a).2) b).1,Value.func (.func 52) #[] #[vP e,vP o]]) (λE=>qP b F E=some r) (λE am=>vI (E)) (λE am=>[C,q,s,t,u,k]) (λE am=>[Sl aG M p0.2.1,Sl aF N p0.2.2,S,Sl aP v2 p.1,X,Y,W,V]) (oB.fn (show bD Tryz.prog 98 from Tryz.call98) Z) Tryz.func98 Z Tryz.ntmps98 Z Z ?_ ?_
      ·refine aX<|aD Z<|aQ<|aN<|eG (λac=>uC b F ac=some r) (λac ax=>[]) (λac ax=>[C,q,s,t,u,k]) ?_ ?_
       ·refine aX<|aB Z ?_;refine aC (dD Z (bR (bR (aA.fact 7 Z) d.1 d.2) g.1 g.2) Z) Z ?_;refine aB Z<|aQ<|aW<|fJ (qQ U v m a b F) (λn ay=>[(0,ai.1),(1,Value.func (.func 52) #[] #[vP e,vP o]),(7,vI aj),(8,vI (n))]) (λn ay=>[C,q,s,t,u,k]) (0:Int) () h SF (a_.refl _) ?_;intro a6 n ay h;refine aX<|cX Z<|aQ<|aN ?_;refine eJ h Z (λh=>?_) λh=>?_
        ·refine cK<|aN<|aW<|aX<|aB Z<|aD Z<|aQ<|aX<|aB Z<|aB Z<|aB Z<|cQ h λad h=>aC (bH Z Z (bR (bR (aA.fact 7 Z) d.1 d.2) g.1 g.2) Z Z ad) Z ?_;refine aC (bS Z (bR (bR (aA.fact 7 Z) d.1 d.2) g.1 g.2) Z Z ad) Z ?_;refine xZ (A:=Bool) (B:=Unit) (vs:=[(at' ((at' ((at' G a).2) b).2) n).1,vP e,vP o]) (λI=>BG b F n (bP (qQ U v m a b F) a6) I=some r) (λI an=>vB (I)) (λI an=>[C,q,s,t,u,k]) (λI an=>[Sl aG M p0.2.1,Sl aF N p0.2.2,S,Sl aP v2 p.1,X,Y,W,V]) (TR (us:=[(at' (ai.2) n).1]) (cs:=[vP e,vP o]) (show bD Tryz.prog 52 from Tryz.call52) Z Z Z) Tryz.func52 Z Tryz.ntmps52 Z Z ?_ ?_
         ·refine aX<|aD Z<|aQ<|aX<|dU 1 Z<|dU 0 Z<|aB Z<|eO h λa2 bb h=>aM (s_ (vs:=[vI (a),(at' ((at' ((at' G a).2) b).2) n).1]) (cs:=[ak]) VP Z (EV U ((at' (ai.2) n).1) J D.1 (List.zip D.2 m) a2 bb) Z (aI.cons (zBb (bR (bR (aA.fact 7 Z) d.1 d.2) g.1 g.2) ad.1 ad.2) (aI.cons (aA.res 2 Z) (aI.cons (eV (i:=3) (j:=4) Z Z cF) .nil))) (λ_ _=>rfl)) Z λbg=>?_;refine aC (iQ Z) Z<|aD Z<|aQ<|aT ?_;exact jC ((!a2)) () h (.inl Z) (Dx.r1 Z (RV.tmp Z)) Z (a_.refl _) (aI.refl _ _)
         intro I an h;refine aQ ?_;refine qS h Z (λ_ h=>?_) λ_ h=>?_
         ·refine aX<|aB Z<|aD Z<|aQ<|aT<|bF<|aJ<|aJ<|bF<|aJ ?_;exact jC (n) () h (.inl Z) (Dx.r1 Z (RV.tmp Z)) Z (a_.refl _) (aI.refl _ _)
         refine eC<|lJ<|aU<|cW Z<|aB Z<|aQ ?_;exact vT (wI .i64 (n+(1:Int))) () h SF Z
        refine fF ?_;exact gJ () (()) h SF Z
       intro ac ax h;unfold uC at h;refine aX<|aD Z<|aQ<|aT ?_;exact jC (-1:Int) () h (.inl Z) (Dx.r1 Z (RV.tmp Z)) Z (a_.refl _) (aI.refl _ _)
      intro E am h;unfold qP at h;refine aC (tC Z Z) Z<|aD Z<|aQ<|aT ?_;exact jC (decide ((0:Int)<=E)) () h (.inl Z) (Dx.r1 Z (RV.tmp Z)) Z (a_.refl _) (aI.refl _ _)
     intro H al h;refine aQ ?_;refine qS h Z (λ_ h=>?_) λ_ h=>?_
     ·refine aX<|aD Z<|aQ<|aT<|bF<|aJ<|aJ<|bF<|bF<|aJ<|aJ<|bF<|aJ ?_;cases h;exact lY Z
     refine eC<|lJ<|aU<|cW Z<|aB Z<|aQ ?_;exact vT (wI .i64 (b+(1:Int))) () h SF Z
    refine sG<|gR<|gR<|Af<|lJ ?_;exact cE () (()) h SF (a_.ix [1,2,3,4,5] Z Z) (aI.refl _ _)
   intro ab ar h;unfold zU at h;refine aU<|cW Z<|aB Z<|aQ ?_;exact vT (wI .i64 (a+(1:Int))) () h SF Z
  refine fF ?_;exact cE () (()) h SF .nil (aI.refl _ _)
 intro aa ap h;unfold zT at h;refine aX<|aD Z<|aQ<|aT ?_;cases h;exact iJ Z
def zM  (a:Unit):Option Bool:=
 some (true)
def zN (U:Nat) (d:fH) (g:cS) (h:Int) (e:cC) (a:Int) (c:(Int)->Option Bool):Option Bool:=
 if a<(e.length:Int)then(Option.bind (jG U ((d.1,d.2.1,d.2.2)) ((g.1,g.2)) h a) λb=>(ck (0<=a∧a<(e.length:Int)) (Option.bind (iA U (at' e a) b.1 b.2) λf=>(if(!f)=true then(some (false))else(c (wI .i64 (a+(1:Int))))))))else(zM  (()))
def pE (U:Nat) (a:fH) (c:cS) (d:Int) (b:cC):Option Bool:=
 if(b.length:Int)≠(a.2.1.length:Int)then(some (false))else(bP (zN U a c d b) U (0:Int))
theorem VS:bD Tryz.prog 55:=Tryz.call55
theorem GZ (U:Nat) {a:fH} {k:cS} {m:Int} {n:cC} (b:Value)  (d:Value)  (f:Value)  (g:Value)  (z:kY)  (q:Value) (r:Bool) (h:pE U a k m n=some r):
  bG Tryz.prog 55 #[Value.agg #[vS (a.1),b,d],Value.agg #[f,g],vI (m),q] [Sl aG b a.2.1,Sl aF d a.2.2,PF (Value.agg #[vS a.1,b,d]),Sl aP f k.1,S2 bA g z k.2,Sl aP q n] (λx:Unit=>vB (r)) (λx l=>l) (λ_ l=>l):=by
 refine bG.of Tryz.func55 Z Tryz.ntmps55 Z λc=>?_;refine aX<|aM (aS.box (cs:=[vS (a.1),b,d]) Z Z) Z λu=>aM (aS.box (cs:=[f,g]) Z Z) Z λv=>aD Z<|aQ<|aN<|aX<|aB Z<|jM (aA.fact 5 Z) Z<|bX Z<|dU 1 Z<|jM (aA.fact 0 Z) Z<|kA Z<|aQ ?_;refine eJ h Z (λh=>?_) λh=>?_
 ·refine aX<|aD Z<|aQ<|aT<|aJ ?_;cases h;exact lY Z
 refine cK<|aN<|eG (λi=>zM  i=some r) (λi w=>[]) (λi w=>[]) ?_ ?_
 ·refine aX<|aD Z<|aQ<|aW<|fJ (zN U a k m n) (λj y=>[(2,vI (m)),(3,q),(4,vP u),(5,vP v),(9,vI (j))]) (λj y=>[bO v [f,g] 31,bO u [vS (a.1),b,d] 36]) (0:Int) () h SF (a_.refl _) ?_;intro A j y h;refine aN<|aX<|aB Z<|aB Z<|jM (aA.fact 5 Z) Z<|cX Z<|aQ ?_;refine eJ h Z (λh=>?_) λh=>?_
  ·refine cK<|aN<|aW<|aX<|cM 1 Z<|cM 0 Z<|aB Z<|aB Z<|eO h λo s h=>aM (zBa JS (Cf U b d f g z o s) Z (iD [0,1,2,3,4] Z)) Z λB=>aB Z<|iG Z<|iG Z<|aD Z<|aD Z<|aQ<|aX<|aB Z<|aB Z<|cQ h λe h=>aC (bI Z Z (aA.fact 5 Z) Z Z e) Z<|aC (cL Z (aA.fact 5 Z) Z Z Z fN e) Z<|aB Z<|aB Z<|eO h λp t h=>aM (zBa tG (jF U  p t) Z .nil) Z λC=>aC (iQ Z) Z<|aQ ?_;refine qS h Z (λ_ h=>?_) λ_ h=>?_
   ·refine aX<|aD Z<|aQ<|aT<|bF<|aJ<|aJ<|bF<|aJ ?_;cases h;exact lY Z
   refine eC<|lJ<|aU<|aB Z<|cW Z<|aD Z<|aQ ?_;exact vT (wI .i64 (j+(1:Int))) () h SF Z
  refine fF ?_;exact cE () (()) h SF .nil (aI.refl _ _)
 intro i w h;unfold zM at h;refine aX<|aD Z<|aQ<|aT ?_;cases h;exact iJ Z
end Go.Proofs.YtflciafboapaaaaGreat