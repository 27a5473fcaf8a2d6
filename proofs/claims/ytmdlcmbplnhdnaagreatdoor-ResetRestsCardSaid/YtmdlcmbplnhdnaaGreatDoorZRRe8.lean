/- Models and proofs. Conditions: none. -/
import Derived.Test.YtmdlcmbplnhdnaaGreatDoorZRRe7
import Derived.Test.YtmdlcmbplnhdnaaGreatDoorZRRe2
import Derived.Test.YtmdlcmbplnhdnaaGreatDoorZRRe6
import Derived.Test.YtmdlcmbplnhdnaaGreatDoorZRRe5
set_option linter.unusedVariables false
set_option linter.unusedSimpArgs false
set_option maxHeartbeats 4000000
set_option maxRecDepth 20000
namespace Go.Proofs.YtmdlcmbplnhdnaaGreatDoor
open Go.Sx
def jV (U:Nat) (a:Tx) (c:bA) (d:Int) (b:Int):Option (Bool):=
 ck (0<=b∧b<(List.length a.1.2.2:Int)) (Option.bind (fJ U ((((a.1.1,a.1.2.1,a.1.2.2)),((a.2.1.1,a.2.1.2)),a.2.2.1,a.2.2.2)) c d ((at' a.1.2.2 b).2.1.2)) λe=>(some (decide (e≠(0:Int)))))
theorem aaW:aR Tryz.prog 94:=Tryz.call94
theorem Cs (U:Nat) {a:Tx} {n:bA} {o:Int} {e:Int} (b:Nat)  (f:Value)  (g:Value)  (i:Value)  (j:Value)  (p:lA)  (k:Value)  (q:qE)  (m:Value)  (s:qE) (r:Bool) (h:jV U a n o e=some r):
  aV Tryz.prog 94 #[vP b,m,vI (o),vI (e)] [bV b [vS (a.1.1),f,g,i,j,vI (a.2.2.1),k] 137,Sl aK f a.1.2.1,Sl aH g a.1.2.2,Sl bM i a.2.1.1,S2 a_ j p a.2.1.2,S2 bM k q a.2.2.2,S2 bM m s n] (λx:Unit=>vB (r)) (λx l=>l) (λ_ l=>l):=by
 refine aV.of Tryz.func94 Z Tryz.ntmps94 Z λc=>?_;refine aT<|aD Z<|aM<|aT<|aA Z<|aA Z<|aA Z<|aA Z<|aC (bS Z) Z<|bU Z<|bU Z<|aC (dC Z (aE.fact 0 Z) Z Z Z) Z<|aA Z<|dO h λd h=>aC (bE Z Z (aE.fact 2 Z) Z Z d) Z<|aC (oC Z Z Z Z Z) Z<|aC (p_ Z (aE.fact 2 Z) Z Z Z yR d) Z<|eZ h λt u h=>aG (aL.callQ QC (wK U b f g i j p k q m s ((at' a.1.2.2 e).2.1.1) t u) Z (aF.cons (aE.fact 0 Z) (aF.cons (aE.fact 1 Z) (aF.cons (aE.fact 2 Z) (aF.cons (aE.fact 3 Z) (aF.cons (aE.fact 4 Z) (aF.cons (aE.fact 5 Z) (aF.cons (aE.fact 6 Z) (aF.cons (uD (aE.fact 2 Z) yT d.1 d.2) .nil))))))))) Z λv=>qD Z<|aD Z<|aM<|aS ?_;cases h;exact kW Z
def mK  (a:Unit):Option (Int):=
 some (-1:Int)
def jS (U:Nat) (a:GA) (d:bA) (e:Int) (b:Int) (c:(Int)->Option (Int)):Option (Int):=
 if b<(List.length a.1.2.2:Int)then(Option.bind (jV U ((((a.2.1.1.1,a.2.1.1.2.1,a.2.1.1.2.2)),((a.2.1.2.1.1,a.2.1.2.1.2)),a.2.1.2.2.1,a.2.1.2.2.2)) d e b) λf=>(if f=true then(some (b))else(c (wI .i64 (b+(1:Int))))))else(mK  (()))
def eB (U:Nat) (a:GA) (b:bA) (c:Int):Option (Int):=
 bL (jS U a b c) U (0:Int)
theorem UH:aR Tryz.prog 70:=Tryz.call70
theorem xW (U:Nat) {a:GA} {n:bA} {m:Int} (d:Nat)  (z:Value)  (A:Value)  (e:Nat)  (o:Value)  (p:Value)  (q:Value)  (s:Value)  (B:lA)  (t:Value)  (g:qE)  (f:Value)  (v:lA)  (b:Value)  (i:qE) (r:Int) (h:eB U a n m=some r):
  aV Tryz.prog 70 #[vP d,b,vI (m)] [bV d [vS (a.1.1),z,A,vP e,f] 108,Sl aK z a.1.2.1,Sl aH A a.1.2.2,bV e [vS (a.2.1.1.1),o,p,q,s,vI (a.2.1.2.2.1),t] 137,Sl aK o a.2.1.1.2.1,Sl aH p a.2.1.1.2.2,Sl bM q a.2.1.2.1.1,S2 a_ s B a.2.1.2.1.2,S2 bM t g a.2.1.2.2.2,S2 a_ f v a.2.2,S2 bM b i n] (λx:Unit=>vI (r)) (λx l=>l) (λ_ l=>l):=by
 refine aV.of Tryz.func70 Z Tryz.ntmps70 Z λc=>?_;unfold eB at h;refine aT<|aD Z<|aM<|aJ<|fU (λj=>mK  j=some r) (λj w=>[]) (λj w=>[]) ?_ ?_
 ·refine aT<|aA Z<|aC (bS Z) Z<|bU Z<|bU Z<|aC (dC Z (aE.fact 0 Z) Z Z Z) Z<|jX (aE.fact 2 Z) Z<|aA Z<|aM<|aU<|fD (jS U a n m) (λk y=>[(0,vP d),(1,b),(2,vI (m)),(13,vI (List.length a.1.2.2:Int)),(14,vI (k))]) (λk y=>[]) (0:Int) () h SF (aY.refl _) ?_;intro E k y h;refine aT<|dA Z<|aM<|aJ ?_;refine fE h Z (λh=>?_) λh=>?_
  ·refine cU<|aJ<|aU<|aT<|aA Z<|aD Z<|aM<|aT<|aA Z<|aC (bS Z) Z<|bU Z<|aC (dC Z (aE.fact 0 Z) Z Z Z) Z<|aA Z<|aA Z<|aA Z<|eZ h λC u h=>aG (aL.callQ aaW (Cs U e o p q s B t g b i C u) Z (nK [3,4,5,6,7,8,10] Z)) Z λD=>aM ?_;refine A_ h Z (λ_ h=>?_) λ_ h=>?_
   ·refine aT<|aA Z<|aD Z<|aM<|aS<|bO<|aI<|aI<|bO<|aI ?_;cases h;exact kW Z
   refine dX<|oM<|aQ<|cQ Z<|aA Z<|aM ?_;exact AK (wI .i64 (k+(1:Int))) () h SF Z
  refine fS ?_;exact jL () (()) h SF Z
 intro j w h;unfold mK at h;refine aT<|aD Z<|aM<|aS ?_;cases h;exact kW Z
def sY (d:Int) (a:fG) (b:Int) (c:Bool):Option (Int):=
 if c=true then(some (b))else(if d=(3:Int)then(some (-1:Int))else(if b<a.1 then(some (a.1))else(some (a.2))))
def vN (U:Nat) (c:Int) (a:fG) (b:Int):Option (Int):=
 if a.1<=b then(sY c a b (decide (b<=a.2)))else(sY c a b (false))
theorem Yg:aR Tryz.prog 164:=Tryz.call164
theorem Je (U:Nat) {e:Int} {a:fG} {d:Int} (r:Int) (h:vN U e a d=some r):
  aV Tryz.prog 164 #[vI (e),Value.agg #[vI (a.1),vI (a.2)],vI (d)] [] (λx:Unit=>vI (r)) (λx l=>l) (λ_ l=>l):=by
 refine aV.of Tryz.func164 Z Tryz.ntmps164 Z λc=>?_;refine aT<|aG (aL.box (cs:=[vI (a.1),vI (a.2)]) Z Z) Z λf=>aD Z<|aM<|aJ<|aU<|aJ<|fU (λb=>sY e a d b=some r) (λb g=>[(0,vI (e)),(2,vI (d)),(4,vP f),(7,vB (b))]) (λb g=>[bV f [vI (a.1),vI (a.2)] 141]) ?_ ?_
 ·refine aQ<|aA Z ?_;refine aC (nH (i:=0) Z Z Z Z Z (by decide)) Z ?_;refine dL 0 Z<|aC (EV Z Z) Z<|aA Z ?_;refine Es h Z (λ_ h=>?_) λ_ h=>?_
  ·refine e_ Z ?_;refine aX Z (nH (i:=1) Z Z Z Z Z (by decide)) Z ?_;refine aX Z (fV 0 Z Z Z Z Z) Z<|aX Z (Cc Z Z) Z<|fF Z<|aD Z<|aM ?_;exact jL (decide (d<=a.2)) () h SF Z
  refine aN Z<|aN Z<|aN Z<|aN Z<|iP Z<|aD Z<|aM ?_;exact jL (false) () h SF Z
 intro b g h;refine A_ h Z (λ_ h=>?_) λ_ h=>?_
 ·refine aT<|aA Z<|aD Z<|aM<|aS<|bO<|aI ?_;cases h;exact uU Z
 refine aT<|aA Z<|cJ Z<|aD Z<|aM ?_;refine fE h Z (λh=>?_) λh=>?_
 ·refine aT<|aD Z<|aM<|aS<|bO<|aI ?_;cases h;exact uU Z
 refine aT<|aA Z ?_;refine aC (nH (i:=0) Z Z Z Z Z (by decide)) Z ?_;refine dL 0 Z<|dA Z<|aD Z<|aM ?_;refine fE h Z (λh=>?_) λh=>?_
 ·refine aT ?_;refine aC (nH (i:=0) Z Z Z Z Z (by decide)) Z ?_;refine dL 0 Z<|aD Z<|aM<|aS<|bO<|aI ?_;cases h;exact uU Z
 refine dX<|oM<|aT ?_;refine aC (nH (i:=1) Z Z Z Z Z (by decide)) Z ?_;refine dL 0 Z<|aD Z<|aM<|aS ?_;cases h;exact uU Z
def mJ  (a:aP):Option aP:=
 some (a)
def jR (U:Nat) (b:GA) (h:bA) (d:Int) (c:Int) (a:mN) (e:wD->Option aP):Option aP:=
 if a.1<(List.length ((at' b.1.2.2 c).2.2.2):Int)then(ck (0<=a.1∧a.1<(List.length ((at' b.1.2.2 c).2.2.2):Int)) (Option.bind (fJ U ((((b.2.1.1.1,b.2.1.1.2.1,b.2.1.1.2.2)),((b.2.1.2.1.1,b.2.1.2.1.2)),b.2.1.2.2.1,b.2.1.2.2.2)) h d ((at' ((at' b.1.2.2 c).2.2.2) a.1).2.2)) λf=>(ck (0<=((at' ((at' b.1.2.2 c).2.2.2) a.1).1)∧((at' ((at' b.1.2.2 c).2.2.2) a.1).1)<(List.length b.1.2.1:Int)) (ck (0<=d∧d<(List.length b.2.2:Int)) (ck (0<=((at' ((at' b.1.2.2 c).2.2.2) a.1).1)∧((at' ((at' b.1.2.2 c).2.2.2) a.1).1)<(List.length (at' b.2.2 d):Int)) (Option.bind (vN U ((at' b.1.2.1 ((at' ((at' b.1.2.2 c).2.2.2) a.1).1)).2.1) ((((at' (at' b.2.2 d) ((at' ((at' b.1.2.2 c).2.2.2) a.1).1)).1),((at' (at' b.2.2 d) ((at' ((at' b.1.2.2 c).2.2.2) a.1).1)).2))) f) λg=>(ck (0<=((at' ((at' b.1.2.2 c).2.2.2) a.1).1)∧((at' ((at' b.1.2.2 c).2.2.2) a.1).1)<(List.length a.2:Int)) (e ((wI .i64 (a.1+(1:Int))),(List.set a.2 (Int.toNat ((at' ((at' b.1.2.2 c).2.2.2) a.1).1)) g))))))))))else(mJ  (a.2))
def kL (U:Nat) (d:GA) (b:bA) (a:Int) (c:Int):Option aP:=
 ck (0<=a∧a<(List.length b:Int)) (ck ((List.length ([]:aP):Int)+(List.length (at' b a):Int)<=1099511627) (ck (0<=c∧c<(List.length d.1.2.2:Int)) (bL (jR U d b a c) U ((0:Int),(([]:aP)++(at' b a))))))
theorem Yc:aR Tryz.prog 145:=Tryz.call145
theorem Dd (U:Nat) {b:GA} {C:bA} {m:Int} {f:Int} (j:Nat)  (O:Value)  (P:Value)  (k:Nat)  (E:Value)  (F:Value)  (G:Value)  (H:Value)  (Q:lA)  (I:Value)  (y:qE)  (w:Value)  (M:lA)  (i:Value)  (A:qE) (r:aP) (h:kL U b C m f=some r):
  aV Tryz.prog 145 #[vP j,i,vI (m),vI (f)] [bV j [vS (b.1.1),O,P,vP k,w] 108,Sl aK O b.1.2.1,Sl aH P b.1.2.2,bV k [vS (b.2.1.1.1),E,F,G,H,vI (b.2.1.2.2.1),I] 137,Sl aK E b.2.1.1.2.1,Sl aH F b.2.1.1.2.2,Sl bM G b.2.1.2.1.1,S2 a_ H Q b.2.1.2.1.2,S2 bM I y b.2.1.2.2.2,S2 a_ w M b.2.2,S2 bM i A C] (λx:Value=>x) (λx l=>Ar cD x r::l) (λ_ l=>l):=by
 refine aV.of Tryz.func145 Z Tryz.ntmps145 Z λc=>?_;refine aT<|aD Z<|aM<|aT<|aA Z<|aA Z<|dO h λB h=>aC (c_ Z Z (aE.fact 10 Z) Z Z B) Z<|aC (dB Z (aE.fact 10 Z) Z Z B) Z<|iW (gR cD)<|dO h λS h=>aG (eL 0 eG Z Z Z (aE.el (aE.fact 10 Z) B.1 B.2) Z Z Z Z S Z) Z λv=>aD Z<|aM<|aJ<|fU (λo=>mJ  o=some r) (λo N=>[(9,v)]) (λo N=>[Ar cD v o]) ?_ ?_
 ·refine aT<|aA Z<|aC (bS Z) Z<|bU Z<|bU Z<|aC (dC Z (aE.fact 0 Z) Z Z Z) Z<|aA Z<|dO h λg h=>aC (bE Z Z (aE.fact 2 Z) Z Z g) Z<|aC (oC Z Z Z Z Z) Z<|aC (p_ Z (aE.fact 2 Z) Z Z Z yS g) Z<|aC (iU Z (uD (aE.fact 2 Z) fM g.1 g.2) Z) Z<|aA Z<|aM<|aU<|fD (jR U b C m f) (λa p=>[(0,vP j),(1,i),(2,vI (m)),(9,v),(26,(at' b.1.2.2 f).2.2.1),(27,vI (List.length ((at' b.1.2.2 f).2.2.2):Int)),(28,vI (a.1))]) (λa p=>[Ar cD v a.2]) ((0:Int),(([]:aP)++(at' C m))) () h SF (aY.refl _) ?_;intro T a p h;refine aT<|dA Z<|aM<|aJ ?_;refine fE h Z (λh=>?_) λh=>?_
  ·refine cU<|aJ<|aU<|aT<|dO h λd h=>aC (bE Z Z (uD (aE.fact 2 Z) fM g.1 g.2) Z Z d) Z<|aC (OU (cs:=[vI ((at' ((at' b.1.2.2 f).2.2.2) a.1).1),(at' ((at' b.1.2.2 f).2.2.2) a.1).2.1]) Z (uD (aE.fact 2 Z) fM g.1 g.2) Jv Z Z Z Z d) Z<|aG (aL.alloc (cs:=[vI (0:Int),kE]) Z Z) Z λR=>bX (Know.one ((uD (uD (aE.fact 2 Z) fM g.1 g.2) Ca d.1 d.2))) λq=>bN 0 (vs:=[vI ((at' ((at' b.1.2.2 f).2.2.2) a.1).1),(at' ((at' b.1.2.2 f).2.2.2) a.1).2.1]) Z Z (jK Z (jK q Z)) Z Z Z<|aM<|aJ ?_;refine JR.start [0,1,3,7,0,0,0,64,255,511] 8 mixedOrders (by decide +kernel) ?_;refine JR.open (by exact rfl) ?_;refine bH Z<|iD Z (bS Z)<|cR Z<|bJ Z .nil (mE 0 Z) (dC Z (aE.fact 0 Z) Z Z Z) aO.z<|bH Z<|bH Z<|cR Z<|gY 0 Z<|bR 8 Z Z<|eZ h λD J h=>aG (aL.callQ QC (wK U k E F G H Q I y i A ((at' ((at' b.1.2.2 f).2.2.2) a.1).2.1) D J) Z (aF.cons (aE.fact 3 Z) (aF.cons (aE.fact 4 Z) (aF.cons (aE.fact 5 Z) (aF.cons (aE.fact 6 Z) (aF.cons (aE.fact 7 Z) (aF.cons (aE.fact 8 Z) (aF.cons (aE.fact 10 Z) (aF.cons (uD (uD (aE.fact 2 Z) fM g.1 g.2) Ca d.1 d.2) .nil))))))))) Z λV=>aD Z<|aM ?_;refine JR.start [0,0,2,0,8,24,56,120,0,256,1016,2040,4088,0,8192,24576,57344,0,253952,516096,0,1048576,4186112,8380416,0,33554424,67108863,134217727] 26 mixedOrders (by decide +kernel) ?_;refine JR.open (by exact rfl) ?_;refine bH Z<|cR Z<|gY 0 Z<|bH Z<|iD Z (bS Z)<|cR Z<|cR Z<|bJ Z .nil (mE 0 Z) (dC Z (aE.fact 0 Z) Z Z Z) aO.z<|cR Z<|gY 0 Z<|dO h λs h=>bJ Z .nil (mE 1 Z) (bE Z Z (aE.fact 0 Z) Z Z s) aO.z<|iD Z (oC Z Z Z Z Z)<|bJ Z .nil (mE 1 Z) (p_ Z (aE.fact 0 Z) Z Z Z wJ s) aO.z<|bH Z<|iD Z (bS Z)<|cR Z<|bJ Z .nil (mE 0 Z) (dC Z (aE.fact 0 Z) Z Z Z) aO.z<|bH Z<|dO h λe h=>bJ Z .nil (mE 9 Z) (c_ Z Z (aE.fact 0 Z) Z Z e) aO.z<|bJ Z .nil (mE 9 Z) (dB Z (aE.fact 0 Z) Z Z e) aO.z<|cR Z<|gY 0 Z<|dO h λt h=>bJ Z .nil (mE 9 Z) (bE Z Z (aE.el (aE.fact 0 Z) e.1 e.2) Z Z t) aO.z<|bJ Z .nil (mE 9 Z) (h_ (cs:=[vI ((at' (at' b.2.2 m) ((at' ((at' b.1.2.2 f).2.2.2) a.1).1)).1),vI ((at' (at' b.2.2 m) ((at' ((at' b.1.2.2 f).2.2.2) a.1).1)).2)]) Z (aE.el (aE.fact 0 Z) e.1 e.2) bQ Z Z Z Z t) aO.z<|bH Z<|eZ h λn K h=>JR.loud Z Z Z (aL.callQ Yg (Je U  n K) Z .nil) Z (λL=>(rY [([0],[])] Z)) λL=>bR 26 Z Z<|dO h λu h=>aC (bE Z Z (bG (aE.res 1 Z) eG) Z Z u) Z<|Cv 1 n u Z Z Z Z Z Z Z<|eN<|oM<|aQ<|cQ Z<|aA Z<|aM ?_;exact lM ((wI .i64 (a.1+(1:Int))),(List.set a.2 (Int.toNat ((at' ((at' b.1.2.2 f).2.2.2) a.1).1)) n)) () h SF (aY.ix [1] Z Z) (aF.refl _ _)
  refine fS ?_;exact jL (a.2) () h SF Z
 intro o N h;unfold mJ at h;refine aT<|aA Z<|aD Z<|aM<|aS ?_;cases h;exact gJ (v) Z Z (RV.tmp Z) (aY.refl _) aF.nil
def mL  (a:bA):Option bA:=
 some (a)
def jT (b:Int×bA) (a:(Int×bA)->Option bA) (c:bA):Option bA:=
 a ((wI .i64 (b.1+(1:Int))),c)
def gS (U:Nat) (b:GA) (d:bA) (g:Int) (a:Int×bA) (c:(Int×bA)->Option bA):Option bA:=
 if a.1<(List.length d:Int)then(ck (0<=a.1) (if(dV .u32 (tV .u32 g a.1) (1:Int))=(1:Int)then(Option.bind (eB U ((((b.1.1,b.1.2.1,b.1.2.2)),((((b.2.1.1.1,b.2.1.1.2.1,b.2.1.1.2.2)),((b.2.1.2.1.1,b.2.1.2.1.2)),b.2.1.2.2.1,b.2.1.2.2.2)),b.2.2)) d a.1) λe=>(Option.bind (kL U ((((b.1.1,b.1.2.1,b.1.2.2)),((((b.2.1.1.1,b.2.1.1.2.1,b.2.1.1.2.2)),((b.2.1.2.1.1,b.2.1.2.1.2)),b.2.1.2.2.1,b.2.1.2.2.2)),b.2.2)) d a.1 e) λf=>(ck (0<=a.1∧a.1<(List.length a.2:Int)) (jT a c (List.set a.2 (Int.toNat a.1) f)))))else(jT a c (a.2))))else(mL  (a.2))
def iL (U:Nat) (b:GA) (a:bA) (c:Int):Option bA:=
 Option.bind (lE U a) λd=>(bL (gS U b a c) U ((0:Int),d))
theorem XT:aR Tryz.prog 113:=Tryz.call113
theorem De (U:Nat) {e:GA} {v:bA} {w:Int} (g:Nat)  (D:Value)  (E:Value)  (o:Nat)  (F:Value)  (G:Value)  (H:Value)  (I:Value)  (Q:lA)  (J:Value)  (t:qE)  (p:Value)  (u:lA)  (d:Value)  (q:qE) (r:bA) (h:iL U e v w=some r):
  aV Tryz.prog 113 #[vP g,d,vU (w)] [bV g [vS (e.1.1),D,E,vP o,p] 108,Sl aK D e.1.2.1,Sl aH E e.1.2.2,bV o [vS (e.2.1.1.1),F,G,H,I,vI (e.2.1.2.2.1),J] 137,Sl aK F e.2.1.1.2.1,Sl aH G e.2.1.1.2.2,Sl bM H e.2.1.2.1.1,S2 a_ I Q e.2.1.2.1.2,S2 bM J t e.2.1.2.2.2,S2 a_ p u e.2.2,S2 bM d q v] (λx:Jq=>x.1) (λx l=>Ar cT.raw x.1 x.2::kF cD x.2 r::l) (λ_ l=>l):=by
 refine aV.of Tryz.func113 Z Tryz.ntmps113 Z λc=>?_;refine aT<|aD Z<|aM<|aT<|aA Z<|eZ h λR S h=>aG (aL.callQ Le (xJ U d q R S) Z (nK [10] Z)) Z λs=>aD Z<|aM<|aJ<|Cr (B:=eW) (λy=>mL  y=some r) (λy z=>[(7,s.1)]) (λy z=>[Ar cT.raw s.1 z,kF cD z y]) ?_ ?_
 ·refine aT<|aA Z<|aC (iX Z (aE.fact 10 Z) Z) Z<|aA Z<|aM<|aU<|fD (B:=eW) (gS U e v w) (λa b=>[(0,vP g),(1,d),(2,vU (w)),(7,s.1),(12,vI (List.length v:Int)),(13,vI (a.1))]) (λa b=>[Ar cT.raw s.1 b,kF cD b a.2]) ((0:Int),R) (s.2) h SF (aY.refl _) ?_;intro L a b h;refine aT<|dA Z<|aM<|aJ ?_;refine fE h Z (λh=>?_) λh=>?_
  ·refine cU<|aJ<|Cr (B:=eW) (λf=>jT a (bL (gS U e v w) L) f=some r) (λf m=>[(0,vP g),(1,d),(2,vU (w)),(7,s.1),(12,vI (List.length v:Int)),(13,vI (a.1))]) (λf m=>[Ar cT.raw s.1 m,kF cD m f]) ?_ ?_
   ·refine aU<|aT<|aA Z<|aD Z<|aM<|aT<|aA Z<|aA Z<|dO h λK h=>aC (JS Z Z K) Z<|yM Z<|cJ Z<|aM ?_;refine fE h Z (λh=>?_) λh=>?_
    ·refine aQ<|aA Z<|aA Z<|aA Z<|aA Z<|aA Z<|aA Z<|aA Z<|aA Z<|eZ h λM N h=>aG (aL.callQ UH (xW U g D E o F G H I Q J t p u d q M N) Z (nK [0,1,2,3,4,5,6,7,8,9,10] Z)) Z λT=>eZ h λC O h=>aG (aL.callQ Yc (Dd U g D E o F G H I Q J t p u d q C O) Z (nK [0,1,2,3,4,5,6,7,8,9,10] Z)) Z λP=>dO h λn h=>aC (c_ Z Z (bT (i:=1) (j:=2) Z Z eG) Z Z n) Z<|bX (Know.one ((bG (aE.res 0 Z) eG))) λA=>iW (wN (k:=a.1) 2 0 Z Z Z n) ?_;refine nF 0 1 ⟨n.1,by first|exact n.2|simpa using n.2⟩ Z Z Z Z Z (by simp) A Z ?_;refine eN<|oM ?_;exact jL (List.set a.2 (Int.toNat a.1) C) (List.set b (Int.toNat a.1) P) h SF Z
    refine dX<|oM ?_;exact jL (a.2) (b) h SF Z
   intro f m h;unfold jT at h;refine aQ<|cQ Z<|aA Z<|aM ?_;exact AK ((wI .i64 (a.1+(1:Int))),f) (m) h SF Z
  refine fS ?_;exact jL (a.2) (b) h SF Z
 intro y z h;unfold mL at h;refine aT<|aA Z<|aD Z<|aM<|aS ?_;cases h;exact gJ (s.1,z) Z Z (RV.tmp Z) (aY.refl _) aF.nil
def xH  (a:Int):Option (Int):=
 some (a)
def sT (c:fG) (b:iQ->Option (Int)) (a:Int):Option (Int):=
 b (a,(wI .i64 (c.2+(1:Int))))
def pW (e:Int) (d:Int->Option Bool) (a:fG) (b:iQ->Option (Int)):Option (Int):=
 if a.2<e then(Option.bind (d a.2) λc=>(if c=true then(ck (0<=a.2) (sT a b (Lb .u32 a.1 (Bv .u32 (1:Int) a.2))))else(sT a b (a.1))))else(xH  (a.1))
def zC (U:Nat) (b:Int) (a:Int->Option Bool):Option (Int):=
 bL (pW b a) U ((0:Int),(0:Int))
theorem aaK:aR Tryz.prog 68:=Tryz.call68
theorem LZ (U:Nat) {j:Int} {n:Int->Option Bool} (m:FuncId) (d:eW) (k:List aW) (f:aR Tryz.prog m) (g:∀(u:Int) (r:Bool),n u=some r->aV Tryz.prog m ([vI (u)]++d).toArray k (λ_:Unit=>vB (r)) (λ_ l=>l) (λ_ l=>l)) (r:Int) (h:zC U j n=some r):
  aV Tryz.prog 68 #[vI (j),Value.func (.func m) #[] (d).toArray] ([]++k) (λx:Unit=>vU (r)) (λx l=>l) (λ_ l=>l):=by
 refine aV.of Tryz.func68 Z Tryz.ntmps68 Z λc=>?_;unfold zC at h;refine aT<|aD Z<|aM<|aT<|aD Z<|aM<|aJ<|zK (B:=Unit) (λi=>xH  i=some r) (λi o=>[(5,vU (i))]) (λi o=>[]) (λi o=>([]++k)) ?_ ?_
 ·refine aT<|aA Z<|aA Z<|aM<|aU<|Dq (B:=Unit) (pW j n) (λb p=>[(1,Value.func (.func m) #[] (d).toArray),(5,vU (b.1)),(7,vI (j)),(8,vI (b.2))]) (λb p=>[]) (λb p=>([]++k)) ((0:Int),(0:Int)) () h SF (aY.refl _) (aF.refl _ _) ?_;intro v b p h;refine aT<|dA Z<|aM<|aJ ?_;refine fE h Z (λh=>?_) λh=>?_
  ·refine cU<|aJ<|zK (B:=Unit) (λa=>sT b (bL (pW j n) v) a=some r) (λa e=>[(1,Value.func (.func m) #[] (d).toArray),(5,vU (a)),(7,vI (j)),(8,vI (b.2))]) (λa e=>[]) (λa e=>([]++k)) ?_ ?_
   ·refine aU<|aT<|aA Z<|aD Z<|aM<|aT<|aA Z<|aA Z<|eZ h λs t h=>aG (uE (vs:=[vI (b.2)]) (cs:=d) f Z (g b.2 s t) Z (aF.tail _) (λ_ _=>rfl)) Z λw=>aM ?_;refine A_ h Z (λ_ h=>?_) λ_ h=>?_
    ·refine aQ<|aA Z<|aA Z<|dO h λq h=>aC (MN Z Z q) Z<|aC (XI Z Z) Z<|aD Z<|eN<|oM ?_;exact jL (Lb .u32 b.1 (Bv .u32 (1:Int) b.2)) () h SF Z
    refine dX<|oM ?_;exact jL (b.1) () h SF Z
   intro a e h;unfold sT at h;refine aQ<|cQ Z<|aA Z<|aM ?_;exact AK (a,(wI .i64 (b.2+(1:Int)))) () h SF Z
  refine fS ?_;exact jL (b.1) () h SF Z
 intro i o h;unfold xH at h;refine aT<|aA Z<|aD Z<|aM<|aS ?_;cases h;exact kW Z
def jO (U:Nat) (b:Int) (a:GA) (c:bA):Option (Bool):=
 Option.bind (eB U ((((a.1.1,a.1.2.1,a.1.2.2)),((((a.2.1.1.1,a.2.1.1.2.1,a.2.1.1.2.2)),((a.2.1.2.1.1,a.2.1.2.1.2)),a.2.1.2.2.1,a.2.1.2.2.2)),a.2.2)) c b) λd=>(some (decide ((0:Int)<=d)))
theorem aaL:aR Tryz.prog 69:=Tryz.call69
theorem Aq (U:Nat) {v:Int} {a:GA} {w:bA} (j:Nat)  (d:Nat)  (o:Value)  (p:Value)  (e:Nat)  (q:Value)  (s:Value)  (t:Value)  (u:Value)  (y:lA)  (f:Value)  (k:qE)  (g:Value)  (m:lA)  (b:Nat)  (i:Value)  (n:qE) (r:Bool) (h:jO U v a w=some r):
  aV Tryz.prog 69 #[vI (v),vP j,vP b] [bV j [vP d] 84,bV d [vS (a.1.1),o,p,vP e,g] 108,Sl aK o a.1.2.1,Sl aH p a.1.2.2,bV e [vS (a.2.1.1.1),q,s,t,u,vI (a.2.1.2.2.1),f] 137,Sl aK q a.2.1.1.2.1,Sl aH s a.2.1.1.2.2,Sl bM t a.2.1.2.1.1,S2 a_ u y a.2.1.2.1.2,S2 bM f k a.2.1.2.2.2,S2 a_ g m a.2.2,bV b [i] 37,S2 bM i n w] (λx:Unit=>vB (r)) (λx l=>l) (λ_ l=>l):=by
 refine aV.of Tryz.func69 Z Tryz.ntmps69 Z λc=>?_;refine aT<|aD Z<|aM<|aT<|aC (dC Z (aE.fact 0 Z) Z Z Z) Z<|aC (dC Z (aE.fact 11 Z) Z Z Z) Z<|aA Z<|eZ h λz A h=>aG (aL.callQ UH (xW U d o p e q s t u y f k g m i n z A) Z (nK [1,2,3,4,5,6,7,8,9,10,12] Z)) Z λB=>aC (EV Z Z) Z<|aD Z<|aM<|aS ?_;cases h;exact kW Z
def cS (U:Nat) (a:GA) (b:bA):Option (Int):=
 Option.bind (zC U (List.length a.2.2:Int) (λd=>jO U d ((((a.1.1,a.1.2.1,a.1.2.2)),((((a.2.1.1.1,a.2.1.1.2.1,a.2.1.1.2.2)),((a.2.1.2.1.1,a.2.1.2.1.2)),a.2.1.2.2.1,a.2.1.2.2.2)),a.2.2)) b)) λc=>(some (c))
theorem Pb:aR Tryz.prog 44:=Tryz.call44
theorem oW (U:Nat) {a:GA} {w:bA} (b:Nat)  (k:Value)  (m:Value)  (e:Nat)  (n:Value)  (o:Value)  (p:Value)  (q:Value)  (y:lA)  (s:Value)  (g:qE)  (f:Value)  (i:lA)  (d:Value)  (j:qE) (r:Int) (h:cS U a w=some r):
  aV Tryz.prog 44 #[vP b,d] [bV b [vS (a.1.1),k,m,vP e,f] 108,Sl aK k a.1.2.1,Sl aH m a.1.2.2,bV e [vS (a.2.1.1.1),n,o,p,q,vI (a.2.1.2.2.1),s] 137,Sl aK n a.2.1.1.2.1,Sl aH o a.2.1.1.2.2,Sl bM p a.2.1.2.1.1,S2 a_ q y a.2.1.2.1.2,S2 bM s g a.2.1.2.2.2,S2 a_ f i a.2.2,S2 bM d j w] (λx:Unit=>vU (r)) (λx l=>l) (λ_ l=>l):=by
 refine aV.of Tryz.func44 Z Tryz.ntmps44 Z λc=>?_;refine aT<|aG (aL.box (cs:=[vP b]) Z Z) Z λt=>bX (Know.one (aE.sl (aE.fact 10 Z))) λv=>?_;refine aG (aL.box (cs:=[d]) Z (by rw[eR v])) Z λu=>?_;refine aD Z<|aM<|aT<|dL 1 Z<|aC (bS Z) Z<|bU Z<|aC (dC Z (aE.fact 0 Z) Z Z Z) Z<|aC (iX Z (aE.fact 9 Z) Z) Z<|aC (wP (cs:=[.tmp 2,.tmp 3]) (vs:=[vP t,vP u]) Z) Z<|eZ h λz A h=>aG (aL.callQ aaK (LZ U 69 [vP t,vP u] [bV t [vP b] 84,bV b [vS (a.1.1),k,m,vP e,f] 108,Sl aK k a.1.2.1,Sl aH m a.1.2.2,bV e [vS (a.2.1.1.1),n,o,p,q,vI (a.2.1.2.2.1),s] 137,Sl aK n a.2.1.1.2.1,Sl aH o a.2.1.1.2.2,Sl bM p a.2.1.2.1.1,S2 a_ q y a.2.1.2.1.2,S2 bM s g a.2.1.2.2.2,S2 a_ f i a.2.2,bV u [d] 37,S2 bM d j w] aaL (λC r h=>Aq U t b k m e n o p q y s g f i u d j r h) z A) Z (aF.cons (aE.res 1 Z) (aF.cons (aE.fact 0 Z) (aF.cons (aE.fact 1 Z) (aF.cons (aE.fact 2 Z) (aF.cons (aE.fact 3 Z) (aF.cons (aE.fact 4 Z) (aF.cons (aE.fact 5 Z) (aF.cons (aE.fact 6 Z) (aF.cons (aE.fact 7 Z) (aF.cons (aE.fact 8 Z) (aF.cons (aE.fact 9 Z) (aF.cons (aE.res 0 Z) (nK [10] Z)))))))))))))) Z λB=>aD Z<|aM<|aS ?_;cases h;exact uU Z
end Go.Proofs.YtmdlcmbplnhdnaaGreatDoor
namespace Go.Proofs.YtmdlcmbplnhdnaaGreatDoor
open Go Go.Sx
abbrev RL:=E×List (Nat×E)
abbrev Ao:=sI×GR×Int×bA
def Cq (R:List RL):Jp:=R.map λr=>(r.1.ts,r.2.map λs=>((s.1:Int),s.2.ts))
def Kc (a:Nat) (e:E):Bool:=e.wf a false&&decide (e.depth<=100)&&decide (e.ts.length<=800)
def vX (a:Nat) (R:List RL):Bool:=decide (R.length<=20)&&R.all λr=>Kc a r.1&&decide (r.2.length<=20)&&r.2.all λs=>decide (s.1<a)&&Kc a s.2
instance:Inhabited E:=⟨.lf 1 0⟩
def zM (g:GR) (v i:Nat):Int:=yF (row g (fP (row g v) i).1.toNat) (v:Int)
def eH (g:GR):bA:=(List.range g.2.length).map λv=>(List.range (row g v).length).map (zM g v)
def jF (S:Ao) (c:bA) (v:Nat) (e:E):Int:=e.den (VS (S,c,(v:Int),[])) (row S.2.1 v).length (-1)
def gF (S:Ao) (R:List RL) (c:bA) (v:Nat):Int:=sA (R.map λr=>jF S c v r.1)
def FZ (a:Int) (b:fG) (x:Int):Int:=if b.1<=x∧x<=b.2 then x else if a=3 then -1 else if x<b.1 then b.1 else b.2
def Gy (S:Ao) (a:List Cp) (c:bA) (v:Nat) (b:aP) (s:Nat×E):aP:=b.set s.1 (FZ (at' a (s.1:Int)).2.1 (DW S.2.1 a v s.1) (jF S c v s.2))
def D_ (S:Ao) (a:List Cp) (R:List RL) (c:bA) (v:Nat) (i:Int):aP:=(at' R i).2.foldl (Gy S a c v) (at' c (v:Int))
def Xm (S:Ao) (R:List RL) (c:bA):Nat:=AD (λv=>decide (0<=gF S R c v)) S.2.1.2.length
def o_ (S:Ao) (vars:List Cp) (R:List RL) (c:bA) (t:Nat):bA:=(List.range c.length).map λv=>if t.testBit v=true then D_ S vars R c v (gF S R c v)else at' c (v:Int)
structure yL (g:GR) (nv:Nat) (c:bA):Prop where
 len:c.length=g.2.length
 row:∀v:Nat,v<g.2.length->(at' c (v:Int)).length=nv
theorem Jw.shape {g:GR} {c:bA} {a:List Cp} (h:Jw g c a):yL g a.length c:=⟨h.len,h.row⟩
section
variable {S:Ao} {nv:Nat} {c:List (List Int)} {v:Nat}
theorem wok (b:S.2.2.2=eH S.2.1) (d:VG S.2.1) (e:yL S.2.1 nv c) (h:v<S.2.1.2.length) (j:List (Int×Int)):WOk (S,c,(v:Int),j) nv S.2.1.2.length v:=by
 refine⟨rfl,h,rfl,d.len,e.len,e.row,λu a i g=> ?_,by show S.2.2.2.length=_;rw[b];simp[eH],λu a=>by
  show(at' S.2.2.2 (u:Int)).length=_;rw[b,eH,nD _ a,List.length_map,List.length_range]⟩
 obtain⟨w,k,f⟩:=d.to a g;show 0<=(fP (row S.2.1 u) i).1∧(fP (row S.2.1 u) i).1<_;rw[f];omega
theorem Ol (i:S.2.2.2=eH S.2.1) (a:VG S.2.1) (j:yL S.2.1 nv c) (f:v<S.2.1.2.length) {e:E} (b:Kc nv e=true):fJ 1000 S c (v:Int) e.ts=some (jF S c v e):=by
 simp only[Kc,Bool.and_eq_true,decide_eq_true_eq]at b;have g:=a.n24;have d:=(a.node v f).deg;unfold fJ;have:=Xf (wok i a j f e.ts) (deg:=(row S.2.1 v).length) Z (by omega) b.2 e false 1000 0 (-1) [] [] (by simp) Z b.1.1 (λh=>by cases h) (by omega);rw[bD (show bP 1000 _ (0:Int) (-1)=_ from this)];rfl
end
section
variable {p:sI} {g:GR} {gr:Int} {R:List RL} {nv:Nat} {c:List (List Int)} {v:Nat}
theorem Fp (a:p.2.2.map wS=Cq R):p.2.2.length=R.length:=by simpa [Cq]using congrArg List.length a
theorem Rv (b:p.2.2.map wS=Cq R) {i:Nat} (a:i<R.length):wS (at' p.2.2 (i:Int))=((at' R (i:Int)).1.ts,(at' R (i:Int)).2.map λs=>((s.1:Int),s.2.ts)):=by
 have d:=Fp b;have:=congrArg (λq=>q[i]?) b;simp only[Cq,List.getElem?_map,List.getElem?_eq_getElem a,List.getElem?_eq_getElem (show i<p.2.2.length by omega),Option.map_some,Option.some.injEq]at this;rw[kT a,kT (show i<p.2.2.length by omega)];exact this
theorem RF (a:vX nv R=true) {i:Nat} (b:i<R.length):Kc nv (at' R (i:Int)).1=true∧(at' R (i:Int)).2.length<=20∧∀s∈(at' R (i:Int)).2,s.1<nv∧Kc nv s.2=true:=by
 simp only[vX,Bool.and_eq_true,List.all_eq_true,decide_eq_true_eq]at a;have:=a.2 (at' R (i:Int)) (by rw[kT b];exact List.getElem_mem b);exact⟨this.1.1,this.1.2,λs d=>this.2 s d⟩
theorem Zl (a:vX nv R=true):R.length<=20:=by
 simp only[vX,Bool.and_eq_true,decide_eq_true_eq]at a;exact a.1
theorem VD (f:VG g) (h:yL g nv c) (j:v<g.2.length) (b:p.2.2.map wS=Cq R) (d:vX nv R=true) {i:Nat} (a:i<R.length):jV 1000 (p,g,gr,eH g) c (v:Int) (i:Int)=some (nz (jF (p,g,gr,eH g) c v (at' R (i:Int)).1)):=by
 have k:=Fp b;have e:(at' p.2.2 (i:Int)).2.1.2=(at' R (i:Int)).1.ts:=congrArg Prod.fst (Rv b a);unfold jV;dsimp only;rw[cB (by omega),e];rw[bD (show fJ 1000 _ c (v:Int) _=_ from Ol (S:=(p,g,gr,eH g)) Z f h j (RF d a).1)];rfl
theorem RG (z:VG g) (A:yL g nv c) (C:v<g.2.length) (w:p.2.2.map wS=Cq R) (s:vX nv R=true) (h:List (List (Int×Int))):eB 1000 (p,(p,g,gr,eH g),h) c (v:Int)=some (gF (p,g,gr,eH g) R c v):=by
 have E:=Fp w;have y:=Zl s;let l:=R.map λr=>jF (p,g,gr,eH g) c v r.1;have B:l.length=R.length:=by simp[l]
 have o:∀i,i<R.length->at' l (i:Int)=jF (p,g,gr,eH g) c v (at' R (i:Int)).1:=λi t=>by
  rw[kT (by omega),kT t];simp[l]
 have b:∀(k:Nat) a,k<R.length->jS 1000 (p,(p,g,gr,eH g),h) c (v:Int) (k:Int) a=if nz (at' l (k:Int))=true then some (k:Int)else a (((k+1:Nat):Int)):=by
  intro k a d;unfold jS;dsimp only;rw[if_pos (by omega),bD (show jV 1000 _ c (v:Int) (k:Int)=_ from VD z A C w s d),o k d,fK (by omega)]
 unfold eB gF;by_cases f:∃i,i<R.length∧at' l (i:Int)≠0
 ·obtain⟨i,t,x⟩:=f;obtain⟨m,D,q,n⟩:=Fh (p:=λi=>at' l (i:Int)≠0) i x;have n:∀j,j<m->at' l (j:Int)=0:=λj u=>Decidable.not_not.1 (n j u);rw[show sA _=(m:Int)from qR (l:=l) (by omega) q n];exact eJ (K:=some (m:Int)) m (λk=>(k:Int)) (λk a d=>by rw[b k a (by omega),if_neg (by simp[nz,n k d])]) (λa=>by rw[b m a (by omega),if_pos (by simpa [nz]using q)]) 1000 (by omega)
 ·have f:∀j,j<l.length->at' l (j:Int)=0:=λj u=>Decidable.not_not.1 λe=>f ⟨j,by omega,e⟩;rw[show sA _=(-1:Int)from AA (l:=l) f];exact eJ (K:=some (-1)) R.length (λk=>(k:Int)) (λk a d=>by rw[b k a d,if_neg (by simp[nz,f k (by omega)])]) (λa=>by
   unfold jS mK;dsimp only;rw[if_neg (by omega)]) 1000 (by omega)
theorem Bh (S:Ao) (R:List RL) (c:List (List Int)) (v:Nat):gF S R c v = -1∨∃i:Nat,gF S R c v=(i:Int)∧i<R.length∧jF S c v (at' R (i:Int)).1≠0:=by
 let l:=R.map λr=>jF S c v r.1;by_cases h:∃i,i<l.length∧at' l (i:Int)≠0
 ·obtain⟨i,n,k⟩:=h;obtain⟨m,o,f,a⟩:=Fh (p:=λi=>at' l (i:Int)≠0) i k;have a:∀j,j<m->at' l (j:Int)=0:=λj b=>Decidable.not_not.1 (a j b);have d:m<R.length:=by simp[l]at n;omega
  refine .inr ⟨m,qR (l:=l) (by omega) f a,d,?_⟩;have:at' l (m:Int)=jF S c v (at' R (m:Int)).1:=by rw[kT (by simpa [l]using d),kT d];simp[l]
  rw[<-this];exact f
 ·exact .inl (AA (l:=l) λj b=>Decidable.not_not.1 λe=>h ⟨j,b,e⟩)
theorem Ey {S:Ao} {R:List RL} {c:List (List Int)} {v:Nat}:gF S R c v = -1↔∀i:Nat,i<R.length->jF S c v (at' R (i:Int)).1=0:=by
 let l:=R.map λr=>jF S c v r.1;have a:∀i,i<R.length->at' l (i:Int)=jF S c v (at' R (i:Int)).1:=λi b=>by rw[kT (by simpa [l]using b),kT b];simp[l]
 constructor
 ·intro h i b;refine Decidable.not_not.1 λe=> ?_;obtain⟨m,n,k,f⟩:=Fh (p:=λi=>at' l (i:Int)≠0) i (by rw[a i b];exact e);have f:∀j,j<m->at' l (j:Int)=0:=λj d=>Decidable.not_not.1 (f j d);have:gF S R c v=(m:Int):=qR (l:=l) (by simp[l];omega) k f;omega
 ·intro h;exact AA (l:=l) λj d=>by rw[a j (by simpa [l]using d)];exact h j (by simpa [l]using d)
theorem Iw (hV:VG g) (hc:yL g nv c) (hz:p.2.2.map wS=Cq R) (hR:vX nv R=true) {tab:List (List (Int×Int))} (ht:tab.length=g.2.length):cS 1000 (p,(p,g,gr,eH g),tab) c=some ((Xm (p,g,gr,eH g) R c:Nat):Int):=by
 have h24:=hV.n24;unfold cS zC;let q:Nat->Bool:=λv=>decide (0<=gF (p,g,gr,eH g) R c v);have:=eJ (step:=pW (tab.length:Int) (λy0=>jO 1000 y0 (p,(p,g,gr,eH g),tab) c)) (K:=some ((AD q g.2.length:Nat):Int)) g.2.length (λk=>(((AD q k:Nat):Int),(k:Int))) (λk ag hk=>by
  have hm:=Rj q (k:=k) (by omega);unfold pW sT jO;dsimp only;rw[if_pos (by omega),bD (show Option.bind (eB 1000 _ c (k:Int)) _=some (q k) by rw[bD (show eB 1000 _ c (k:Int)=_ from RG hV hc hk hz hR tab)]),fK (by omega)];cases hq:q k with
  |true=>
   rw[if_pos Z,cB (by omega),OZ hm (by omega)];simp only[AD,hq,if_true]
  |false=>
   rw[if_neg (by decide)];simp only[AD,hq];rfl) (λag=>by
  unfold pW xH;dsimp only;rw[if_neg (by omega)]) 1000 (by omega)
 rw[bD (show bL _ 1000 ((0:Int),(0:Int))=_ from this)];rfl
end
theorem UM (f:Nat) (k:Int) (b:fG) (x:Int):vN f k b x=some (FZ k b x):=by
 unfold vN sY FZ;by_cases a:b.1<=x
 ·by_cases c:x<=b.2
  ·simp only[a,c,and_self,if_true,decide_true]
  ·simp only[a,c,and_false,if_true,if_false,decide_false,Bool.false_eq_true];split
   ·rfl
   ·split<;>rfl
 ·simp only[a,false_and,if_false,Bool.false_eq_true];split
  ·rfl
  ·split<;>rfl
theorem NS {S:Ao} {a:List Cp} {c:bA} {v:Nat} (l:List (Nat×E)) (b:aP):(l.foldl (Gy S a c v) b).length=b.length:=by
 induction l generalizing b with
 |nil=>rfl
 |cons s l d=>rw[List.foldl_cons,d];simp[Gy]
theorem Tf {S:Ao} {a:List Cp} {R:List RL} {c:bA} {v:Nat} {i:Int}:(D_ S a R c v i).length=(at' c (v:Int)).length:=NS _ _
section
variable {p:sI} {g:GR} {gr:Int} {R:List RL} {c:List (List Int)} {v:Nat}
theorem Zc (A:VG g) (J:tU g p.2.1) (o:yL g p.2.1.length c) (x:v<g.2.length) (E:p.2.2.map wS=Cq R) (H:vX p.2.1.length R=true) {i:Nat} (B:i<R.length):
  kL 1000 (p,(p,g,gr,eH g),AU g p.2.1) c (v:Int) (i:Int)=some (D_ (p,g,gr,eH g) p.2.1 R c v (i:Int)):=by
 have G:=A.n24;have I:=o.len;have l:=o.row v x;have N:=J.len;have O:=Fp E;have r:=Rv E B;obtain⟨-,m,d⟩:=RF H B;have D:(AU g p.2.1).length=g.2.length:=by simp[AU]
 have w:at' (AU g p.2.1) (v:Int)=DN g p.2.1 v:=nD _ x;have L:(DN g p.2.1 v).length=p.2.1.length:=by simp[DN]
 have y:(at' p.2.2 (i:Int)).2.2.2.map (λs=>(s.1,s.2.2))=(at' R (i:Int)).2.map λs=>((s.1:Int),s.2.ts):=congrArg Prod.snd r;have n:(at' p.2.2 (i:Int)).2.2.2.length=(at' R (i:Int)).2.length:=by simpa using congrArg List.length y
 unfold kL;dsimp only;rw[cB (by omega),cB (by simp;omega),cB (by omega),List.nil_append];unfold D_;let a:=(at' R (i:Int)).2;have:=eJ (step:=jR 1000 (p,(p,g,gr,eH g),AU g p.2.1) c (v:Int) (i:Int)) (K:=some (a.foldl (Gy (p,g,gr,eH g) p.2.1 c v) (at' c (v:Int)))) a.length (λk=>((k:Int),(a.take k).foldl (Gy (p,g,gr,eH g) p.2.1 c v) (at' c (v:Int)))) (λk F e=>by
  have j:k<(at' p.2.2 (i:Int)).2.2.2.length:=by rw[n];exact e
  have z:((at' (at' p.2.2 (i:Int)).2.2.2 (k:Int)).1,(at' (at' p.2.2 (i:Int)).2.2.2 (k:Int)).2.2)=(((at' a (k:Int)).1:Int),(at' a (k:Int)).2.ts):=by
   have:=congrArg (λq=>q[k]?) y;simp only[List.getElem?_map,List.getElem?_eq_getElem j,List.getElem?_eq_getElem (show k<(at' R (i:Int)).2.length from e),Option.map_some,Option.some.injEq]at this;rw[kT j,kT e];exact this
  have f:=congrArg Prod.fst z;have h:=congrArg Prod.snd z;dsimp only at f h;obtain⟨t,u⟩:=d (at' a (k:Int)) (by rw[kT e];exact List.getElem_mem e);have C:((a.take k).foldl (Gy (p,g,gr,eH g) p.2.1 c v) (at' c (v:Int))).length=p.2.1.length:=by rw[NS,l]
  have b:at' (DN g p.2.1 v) ((at' a (k:Int)).1:Int)=DW g p.2.1 v (at' a (k:Int)).1:=nD _ t;have M:a.length<=20:=m;unfold jR;dsimp only;rw[if_pos (by omega),cB (by omega),f,h,bD (show fJ 1000 _ c (v:Int) _=_ from Ol (S:=(p,g,gr,eH g)) Z A o x u),cB (by omega),cB (by omega),w,cB (by omega),b,bD (UM 1000 _ _ _),cB (by omega),fK (by omega),Int.toNat_natCast,DI e,List.foldl_append];rfl) (λF=>by
  unfold jR mJ;dsimp only;rw[if_neg (by show¬(a.length:Int)<_;rw[n];exact Int.lt_irrefl _),List.take_length]) 1000 (by show(at' R (i:Int)).2.length<1000;omega)
 exact this
theorem Zq (m:VG g) (s:tU g p.2.1) (l:yL g p.2.1.length c) (u:p.2.2.map wS=Cq R) (o:vX p.2.1.length R=true) {t:Nat} (b:t<4294967296) (B:∀v,t.testBit v=true->0<=gF (p,g,gr,eH g) R c v):
  iL 1000 (p,(p,g,gr,eH g),AU g p.2.1) c (t:Int)=some (o_ (p,g,gr,eH g) p.2.1 R c t):=by
 have x:=m.n24;have z:=l.len;have C:=s.len;unfold iL;rw[bD (QM c (by omega) (λv D=>by rw[l.row v (by omega)];omega))];let f:Nat->List Int:=λv=>if t.testBit v=true then D_ (p,g,gr,eH g) p.2.1 R c v (gF (p,g,gr,eH g) R c v)else at' c (v:Int);let Q:Nat->List (List Int):=λk=>(List.range k).map f++c.drop k;have y:∀k,k<=c.length->(Q k).length=c.length:=λk a=>by simp[Q];omega
 have j:∀k,k<c.length->(Q k).set k (f k)=Q (k+1):=λk a=>by
  show((List.range k).map f++c.drop k).set k (f k)=(List.range (k+1)).map f++c.drop (k+1);rw[List.set_append_right _ _ (by simp),List.length_map,List.length_range,Nat.sub_self,List.drop_eq_getElem_cons a,List.set_cons_zero,List.range_succ,List.map_append,List.map_singleton,List.append_assoc];rfl
 have d:∀k,k<c.length->f k=at' c (k:Int)->Q k=Q (k+1):=λk a A=>by
  show(List.range k).map f++c.drop k=(List.range (k+1)).map f++c.drop (k+1);rw[List.range_succ,List.drop_eq_getElem_cons a,List.map_append,List.map_singleton,A,kT a];simp
 rw[show c=Q 0 by simp[Q]];refine eJ (step:=gS 1000 (p,(p,g,gr,eH g),AU g p.2.1) (Q 0) (t:Int)) (K:=some (o_ (p,g,gr,eH g) p.2.1 R (Q 0) t)) c.length (λk=>((k:Int),Q k)) (λk w a=> ?_) (λw=> ?_) 1000 (by omega)
 ·rw[show Q 0=c by simp[Q]];unfold gS jT;dsimp only;rw[if_pos (by omega),cB (by omega),fK (by omega)];by_cases h:t.testBit k=true
  ·obtain⟨i,r,n,_⟩:=(Bh (p,g,gr,eH g) R c k).resolve_left (λe=>by have:=B k h;omega);rw[if_pos ((VE (by omega) b).2 h),bD (show eB 1000 _ c (k:Int)=_ from RG m l (by omega) u o _),r,bD (show kL 1000 _ c (k:Int) (i:Int)=_ from Zc m s l (by omega) u o n),cB (by rw[y k (by omega)];omega),Int.toNat_natCast];have:D_ (p,g,gr,eH g) p.2.1 R c k (i:Int)=f k:=by simp only[f];rw[if_pos h,r]
   rw[this,j k a]
  ·rw[if_neg (λq=>h ((VE (by omega) b).1 q)),d k a (by simp only[f];rw[if_neg h])]
 ·rw[show Q 0=c by simp[Q]];unfold gS mL;dsimp only;rw[if_neg (by omega)];simp[Q,o_,f]
theorem Kv {S:Ao} {a:List Cp} {t:Nat}:(o_ S a R c t).length=c.length:=by simp[o_]
theorem Jb {S:Ao} {a:List Cp} {t:Nat} (b:v<c.length):at' (o_ S a R c t) (v:Int)=if t.testBit v=true then D_ S a R c v (gF S R c v)else at' c (v:Int):=nD _ b
theorem yL.step {S:Ao} {a:List Cp} {t:Nat} {e:Nat} {g:GR} (b:yL g e c):yL g e (o_ S a R c t):=⟨by rw[Kv,b.len],λv d=>by
 rw[Jb (by rw[b.len];exact d)];split
 ·rw[Tf,b.row v d]
 ·exact b.row v d⟩
end
end Go.Proofs.YtmdlcmbplnhdnaaGreatDoor
namespace Go.Proofs.YtmdlcmbplnhdnaaGreatDoor
open Go.Sx
def nR  (a:Unit):Option (Bool):=
 some (true)
def nS (c:aP) (a:Int) (b:(Int)->Option (Bool)):Option (Bool):=
 if a<(List.length c:Int)then(ck (0<=a∧a<(List.length c:Int)) (if(yV .u32 (at' c a) (16777215:Int))≠(0:Int)then(some (false))else(b (wI .i64 (a+(1:Int))))))else(nR  (()))
def kA (U:Nat) (a:aP):Option (Bool):=
 bL (nS a) U (0:Int)
theorem QD:aR Tryz.prog 147:=Tryz.call147
theorem Ah (U:Nat) {d:aP} (e:Value) (r:Bool) (h:kA U d=some r):
  aV Tryz.prog 147 #[e] [Sl wF e d] (λx:Unit=>vB (r)) (λx l=>l) (λ_ l=>l):=by
 refine aV.of Tryz.func147 Z Tryz.ntmps147 Z λc=>?_;unfold kA at h;refine aT<|aD Z<|aM<|aJ<|fU (λa=>nR  a=some r) (λa f=>[]) (λa f=>[]) ?_ ?_
 ·refine aT<|aA Z<|jX (aE.fact 0 Z) Z<|aA Z<|aM<|aU<|fD (nS d) (λb g=>[(5,e),(6,vI (List.length d:Int)),(7,vI (b))]) (λb g=>[]) (0:Int) () h SF (aY.refl _) ?_;intro j b g h;refine aT<|dA Z<|aM<|aJ ?_;refine fE h Z (λh=>?_) λh=>?_
  ·refine cU<|aJ<|aU<|aT<|dO h λi h=>aC (bE Z Z (aE.fact 0 Z) Z Z i) Z<|aC (b_ Z (aE.fact 0 Z) Z Z Z FW i) Z<|aD Z<|aM<|aT<|aA Z<|aC (HZ Z Z) Z<|qD Z<|aM ?_;refine fE h Z (λh=>?_) λh=>?_
   ·refine aT<|aD Z<|aM<|aS<|bO<|aI<|aI<|bO<|aI ?_;cases h;exact kW Z
   refine dX<|oM<|aQ<|cQ Z<|aA Z<|aM ?_;exact AK (wI .i64 (b+(1:Int))) () h SF Z
  refine fS ?_;exact jL () (()) h SF Z
 intro a f h;unfold nR at h;refine aT<|aD Z<|aM<|aS ?_;cases h;exact kW Z
def lH  (a:Bool):Option (Bool):=
 some (a)
def iI (U:Nat) (a:Hb) (c:Bool):Option (Bool):=
 if c=true then(some (false))else(if(wI .i64 (a.2.2.1+(1:Int)))<a.2.2.2.1 then(some (false))else(if a.1<=a.2.1 then(if a.2.1<=(wI .i64 ((24:Int)*a.1))then(Option.bind (kA U ([a.2.2.2.2])) λb=>(lH  (b)))else(lH  (false)))else(lH  (false))))
def pN (U:Nat) (a:Hb):Option (Bool):=
 if a.1<(0:Int)then(iI U a (true))else(if(4096:Int)<a.1 then(iI U a (true))else(if a.2.2.1<(0:Int)then(iI U a (true))else(if a.2.2.2.1<a.2.2.1 then(iI U a (true))else(iI U a (decide (a.1<a.2.2.2.1))))))
theorem Yd:aR Tryz.prog 146:=Tryz.call146
theorem Hh (U:Nat) {a:Hb} (r:Bool) (h:pN U a=some r):
  aV Tryz.prog 146 #[Value.agg #[vI (a.1),vI (a.2.1),vI (a.2.2.1),vI (a.2.2.2.1),vU (a.2.2.2.2)]] [] (λx:Unit=>vB (r)) (λx l=>l) (λ_ l=>l):=by
 refine aV.of Tryz.func146 Z Tryz.ntmps146 Z λc=>?_;refine aT<|aG (aL.box (cs:=[vI (a.1),vI (a.2.1),vI (a.2.2.1),vI (a.2.2.2.1),vU (a.2.2.2.2)]) Z Z) Z λj=>aD Z<|aM<|aJ<|aJ<|fU (λb=>iI U a b=some r) (λb k=>[(1,vP j),(29,vB (b))]) (λb k=>[bV j [vI (a.1),vI (a.2.1),vI (a.2.2.1),vI (a.2.2.2.1),vU (a.2.2.2.2)] 49]) ?_ ?_
 ·refine aQ<|bU Z<|dL 0 Z<|dA Z<|aA Z ?_;refine Es h Z (λ_ h=>?_) λ_ h=>?_
  ·refine aN Z<|aN Z<|aN Z<|fF Z<|aA Z<|aN Z<|aN Z<|aN Z<|fF Z<|aA Z<|aN Z<|aN Z<|aN Z<|aN Z<|aN Z<|fF Z<|aA Z<|aN Z<|aN Z<|aN Z<|aN Z<|aN Z<|fF Z<|aM ?_;exact jL (true) () h SF Z
  refine aX Z (eQ Z Z Z Z Z) Z<|aX Z (fV 0 Z Z Z Z Z) Z<|aX Z (xP Z Z) Z<|iP Z<|aA Z ?_;refine Es h Z (λ_ h=>?_) λ_ h=>?_
  ·refine aN Z<|aN Z<|aN Z<|fF Z<|aA Z<|aN Z<|aN Z<|aN Z<|aN Z<|aN Z<|fF Z<|aA Z<|aN Z<|aN Z<|aN Z<|aN Z<|aN Z<|fF Z<|aM ?_;exact jL (true) () h SF Z
  refine aX Z (eQ Z Z Z Z Z) Z<|aX Z (fV 0 Z Z Z Z Z) Z<|aX Z (Ib Z Z) Z<|iP Z<|aA Z ?_;refine Es h Z (λ_ h=>?_) λ_ h=>?_
  ·refine aN Z<|aN Z<|aN Z<|aN Z<|aN Z<|fF Z<|aA Z<|aN Z<|aN Z<|aN Z<|aN Z<|aN Z<|fF Z<|aM ?_;exact jL (true) () h SF Z
  refine aX Z (eQ Z Z Z Z Z) Z<|aX Z (fV 0 Z Z Z Z Z) Z<|aX Z (eQ Z Z Z Z Z) Z<|aX Z (fV 0 Z Z Z Z Z) Z<|aX Z (xP Z Z) Z<|iP Z<|aA Z ?_;refine Es h Z (λ_ h=>?_) λ_ h=>?_
  ·refine aN Z<|aN Z<|aN Z<|aN Z<|aN Z<|fF Z<|aM ?_;exact jL (true) () h SF Z
  refine aX Z (eQ Z Z Z Z Z) Z<|aX Z (fV 0 Z Z Z Z Z) Z<|aX Z (eQ Z Z Z Z Z) Z<|aX Z (fV 0 Z Z Z Z Z) Z<|aX Z (xP Z Z) Z<|iP Z<|aM ?_;exact jL (decide (a.1<a.2.2.2.1)) () h SF Z
 intro b k h;refine A_ h Z (λ_ h=>?_) λ_ h=>?_
 ·refine aT<|aD Z<|aM<|aS<|aI ?_;cases h;exact uU Z
 refine cU<|aJ<|aT<|bU Z<|dL 0 Z<|bU Z<|dL 0 Z<|cQ Z<|aC (xP Z Z) Z<|aM ?_;refine fE h Z (λh=>?_) λh=>?_
 ·refine aT<|aD Z<|aM<|aS<|aI ?_;cases h;exact uU Z
 refine cU<|aJ<|fU (λd=>lH  d=some r) (λd m=>[(2,vB (d))]) (λd m=>[]) ?_ ?_
 ·refine aQ<|bU Z<|dL 0 Z<|bU Z<|dL 0 Z<|aC (Cc Z Z) Z<|aA Z ?_;refine Es h Z (λ_ h=>?_) λ_ h=>?_
  ·refine aX Z (eQ Z Z Z Z Z) Z<|aX Z (fV 0 Z Z Z Z Z) Z<|aX Z (eQ Z Z Z Z Z) Z<|aX Z (fV 0 Z Z Z Z Z) Z<|aX Z (AJ Z Z) Z<|aX Z (Cc Z Z) Z<|fF Z<|aA Z ?_;refine Es h Z (λ_ h=>?_) λ_ h=>?_
   ·refine aX Z (eQ Z Z Z Z Z) Z<|aX Z (fV 0 Z Z Z Z Z) Z<|uW Z (bW (e:=nZ) ([a.2.2.2.2]) [(0,vU (a.2.2.2.2))] Z Z Z Z (lQ (vU (a.2.2.2.2)) Z) Z Z Z) Z λg=>eZ h λf i h=>uW Z (aL.callQ QD (Ah U g f i) Z (aF.cons (bG (aE.res 0 Z) tT) .nil)) Z λn=>fF Z<|aD Z<|aM ?_;exact cV (f) () h SF .nil (aF.refl _ _)
   refine aN Z<|aN Z<|aN Z<|aN Z<|iP Z<|aD Z<|aM ?_;exact cV (false) () h SF .nil (aF.refl _ _)
  refine aN Z<|aN Z<|aN Z<|aN Z<|aN Z<|aN Z<|iP Z<|aA Z<|aN Z<|aN Z<|aN Z<|aN Z<|iP Z<|aD Z<|aM ?_;exact cV (false) () h SF .nil (aF.refl _ _)
 intro d m h;unfold lH at h;refine aS ?_;cases h;exact kW Z
def pE (U:Nat) (a:Int):Option (Int):=
 ck (0<=(24:Int)) (ck (0<=(tV .u32 a (24:Int))∧(tV .u32 a (24:Int))<(List.length Xl:Int)) (ck (0<=(16:Int)) (ck (0<=(dV .u32 (tV .u32 a (16:Int)) (255:Int))∧(dV .u32 (tV .u32 a (16:Int)) (255:Int))<(List.length Xl:Int)) (ck (0<=(8:Int)) (ck (0<=(dV .u32 (tV .u32 a (8:Int)) (255:Int))∧(dV .u32 (tV .u32 a (8:Int)) (255:Int))<(List.length Xl:Int)) (ck (0<=(dV .u32 a (255:Int))∧(dV .u32 a (255:Int))<(List.length Xl:Int)) (some (wI .i64 (wI .u8 ((wI .u8 ((wI .u8 ((at' Xl (tV .u32 a (24:Int)))+(at' Xl (dV .u32 (tV .u32 a (16:Int)) (255:Int)))))+(at' Xl (dV .u32 (tV .u32 a (8:Int)) (255:Int)))))+(at' Xl (dV .u32 a (255:Int)))))))))))))
theorem Ye:aR Tryz.prog 148:=Tryz.call148
theorem EB (U:Nat) {a:Int} (r:Int) (h:pE U a=some r):
  aV Tryz.prog 148 #[vU (a)] [] (λx:Unit=>vI (r)) (λx l=>l) (λ_ l=>l):=by
 refine aV.of Tryz.func148 Z Tryz.ntmps148 Z λc=>?_;refine aT<|aD Z<|aM<|aJ ?_;refine JR.start [0,1,3,0,8,24,56,127,0,256,768,1792,4095,0,8192,24576,65535,131071,262143] 16 mixedOrders (by decide +kernel) ?_;refine JR.open (by exact rfl) ?_;refine bH Z<|dO h λb h=>iD Z (JS Z Z b)<|dO h λd h=>iD Z (Bt Z Z Z Li d)<|bH Z<|dO h λe h=>iD Z (JS Z Z e)<|iD Z (Qm Z Z)<|dO h λf h=>iD Z (Bt Z Z Z Li f)<|iD Z (xY Z Z)<|bH Z<|dO h λg h=>iD Z (JS Z Z g)<|iD Z (Qm Z Z)<|dO h λi h=>iD Z (Bt Z Z Z Li i)<|iD Z (xY Z Z)<|bH Z<|iD Z (Qm Z Z)<|dO h λj h=>iD Z (Bt Z Z Z Li j)<|bR 16 Z Z<|cQ Z<|aC (OT Z Z Z) Z<|aD Z<|aM<|aS ?_;cases h;exact kW Z
def qP (b:Hb) (c:Int) (a:fG):Option ((Int×Int×Int×Int×Int)×Int):=
 some ((((wI .i64 (b.1+(1:Int))),(wI .i64 (b.2.1+c)),a.1,(wI .i64 (b.2.2.1+(1:Int))),a.2)),(0:Int))
def qO (U:Nat) (a:Hb) (c:Int) (d:Int) (e:Bool):Option ((Int×Int×Int×Int×Int)×Int):=
 if e=true then(some ((((0:Int),(0:Int),(0:Int),(0:Int),(0:Int))),(11:Int)))else(if a.1=(4096:Int)then(some ((((0:Int),(0:Int),(0:Int),(0:Int),(0:Int))),(3:Int)))else(Option.bind (pE U c) λb=>(if(dV .u32 (yV .u32 a.2.2.2.2 c) d)=(0:Int)then(qP a b ((wI .i64 (a.2.2.1+(1:Int))),d))else(qP a b (a.2.2.1,(dV .u32 (yV .u32 a.2.2.2.2 c) d))))))
def kC (U:Nat) (a:Hb) (b:Int) (c:Int):Option ((Int×Int×Int×Int×Int)×Int):=
 Option.bind (pN U ((a.1,a.2.1,a.2.2.1,a.2.2.2.1,a.2.2.2.2))) λe=>(if(!e)=true then(some ((((0:Int),(0:Int),(0:Int),(0:Int),(0:Int))),(7:Int)))else(if b=(0:Int)then(qO U a b c (true))else(Option.bind (kA U ([b,c])) λd=>(qO U a b c ((!d))))))
theorem XU:aR Tryz.prog 114:=Tryz.call114
theorem JB (U:Nat) {a:Hb} {g:Int} {d:Int} (r:(Int×Int×Int×Int×Int)×Int) (h:kC U a g d=some r):
  aV Tryz.prog 114 #[Value.agg #[vI (a.1),vI (a.2.1),vI (a.2.2.1),vI (a.2.2.2.1),vU (a.2.2.2.2)],vU (g),vU (d)] [] (λx:Unit=>Value.tuple #[Value.agg #[vI (r.1.1),vI (r.1.2.1),vI (r.1.2.2.1),vI (r.1.2.2.2.1),vU (r.1.2.2.2.2)],vI (r.2)]) (λx l=>l) (λ_ l=>l):=by
 refine aV.of Tryz.func114 Z Tryz.ntmps114 Z λc=>?_;refine aT<|aG (aL.box (cs:=[vI (a.1),vI (a.2.1),vI (a.2.2.1),vI (a.2.2.2.1),vU (a.2.2.2.2)]) Z Z) Z λm=>aG (aL.alloc (cs:=ZZ) Z Z) Z λn=>aD Z<|aM<|aJ<|aT<|dW 1 Z<|eZ h λu v h=>aG (aL.callQ Yd (Hh U  u v) Z .nil) Z λz=>aC (sK Z) Z<|aM ?_;refine A_ h Z (λ_ h=>?_) λ_ h=>?_
 ·refine aT ?_;refine aC (H_ (r:=Value.agg #[vI (0:Int),vI (0:Int),vI (0:Int),vI (0:Int),vU (0:Int)]) (by intro w;simp[Instr.build,Instr.fill,dH,cW,cH,dJ,dK,cX,eI])) Z ?_;refine bN 0 (vs:=ZZ) Z Z Z Z Z Z<|aD Z<|aM<|aS<|aI ?_;cases h;exact mH () Z Z (RV.cell 0 Z Z Z Z) (RV.tmp Z) .nil aF.nil
 refine cU<|aJ<|aJ<|fU (λi=>qO U a g d i=some r) (λi t=>[(1,vU (g)),(2,vU (d)),(3,vP m),(6,vP n),(20,vB (i))]) (λi t=>[bV n ZZ 49,bV m [vI (a.1),vI (a.2.1),vI (a.2.2.1),vI (a.2.2.2.1),vU (a.2.2.2.2)] 49]) ?_ ?_
 ·refine aQ<|aA Z<|cJ Z<|aA Z ?_;refine Es h Z (λ_ h=>?_) λ_ h=>?_
  ·refine aN Z<|aN Z<|aN Z<|aN Z<|aN Z<|fF Z<|aM ?_;exact jL (true) () h SF Z
  refine e_ Z<|e_ Z<|uW Z (bW (e:=nZ) ([g,d]) [(0,vU (g)),(1,vU (d))] Z Z Z Z (IB (vU (g)) (vU (d)) Z Z) Z Z Z) Z λo=>eZ h λk q h=>uW Z (aL.callQ QD (Ah U o k q) Z (aF.cons (bG (aE.res 0 Z) tT) .nil)) Z λy=>aX Z (sK Z) Z<|iP Z<|aM ?_;exact cV ((!k)) () h SF (aY.ix [1,2] Z Z) (aF.refl _ _)
 intro i t h;refine A_ h Z (λ_ h=>?_) λ_ h=>?_
 ·refine aT ?_;refine aC (H_ (r:=Value.agg #[vI (0:Int),vI (0:Int),vI (0:Int),vI (0:Int),vU (0:Int)]) (by intro w;simp[Instr.build,Instr.fill,dH,cW,cH,dJ,dK,cX,eI])) Z ?_;refine bN 0 (vs:=ZZ) Z Z Z Z Z Z<|aD Z<|aM<|aS<|aI ?_;cases h;exact mH () Z Z (RV.cell 0 Z Z Z Z) (RV.tmp Z) .nil aF.nil
 refine cU<|aJ<|aT<|bU Z<|dL 1 Z<|cJ Z<|aM ?_;refine fE h Z (λh=>?_) λh=>?_
 ·refine aT ?_;refine aC (H_ (r:=Value.agg #[vI (0:Int),vI (0:Int),vI (0:Int),vI (0:Int),vU (0:Int)]) (by intro w;simp[Instr.build,Instr.fill,dH,cW,cH,dJ,dK,cX,eI])) Z ?_;refine bN 0 (vs:=ZZ) Z Z Z Z Z Z<|aD Z<|aM<|aS<|aI ?_;cases h;exact mH () Z Z (RV.cell 0 Z Z Z Z) (RV.tmp Z) .nil aF.nil
 refine cU<|aT<|bU Z<|dL 1 Z<|cQ Z<|bU Z<|fX 1 Z Z Z Z Z Z<|aM<|aJ ?_;refine JR.start [0,1,0,4,15,31,63] 4 mixedOrders (by decide +kernel) ?_;refine JR.open (by exact rfl) ?_;refine cR Z<|gY 1 Z<|bH Z<|eZ h λf p h=>JR.loud Z Z Z (aL.callQ Ye (EB U  f p) Z .nil) Z (λs=>(rY [([1],[])] Z)) λs=>bR 4 Z Z<|cQ Z<|bU Z<|fX 1 Z Z Z Z Z Z<|aM<|aT<|bU Z<|dL 1 Z<|cQ Z<|bU Z<|fX 1 Z Z Z Z Z Z<|aM<|aT<|bU Z<|dL 1 Z<|aA Z<|aC (HZ Z Z) Z<|aA Z<|yM Z<|bU Z<|fX 1 Z Z Z Z Z Z<|aM<|aJ<|fU (λb=>qP a f b=some r) (λb j=>[(3,vP m),(6,vP n)]) (λb j=>[bV n ZZ 49,bV m [vI (wI .i64 (a.1+(1:Int))),vI (wI .i64 (a.2.1+f)),vI (b.1),vI (wI .i64 (a.2.2.1+(1:Int))),vU (b.2)] 49]) ?_ ?_
 ·refine aT<|bU Z<|dL 1 Z<|cJ Z<|aM ?_;refine fE h Z (λh=>?_) λh=>?_
  ·refine aT<|bU Z<|dL 1 Z<|bU Z<|fX 1 Z Z Z Z Z Z<|aM<|aQ<|aA Z<|bU Z<|fX 1 Z Z Z Z Z Z<|aM ?_;exact jL ((wI .i64 (a.2.2.1+(1:Int))),d) () h SF Z
  refine cU ?_;exact jL (a.2.2.1,(dV .u32 (yV .u32 a.2.2.2.2 g) d)) () h SF Z
 intro b j h;unfold qP at h;refine aT<|dW 1 Z<|bN 0 (vs:=[vI (wI .i64 (a.1+(1:Int))),vI (wI .i64 (a.2.1+f)),vI (b.1),vI (wI .i64 (a.2.2.1+(1:Int))),vU (b.2)]) Z Z Z Z Z Z<|aD Z<|aM<|aS ?_;cases h;exact mH () Z Z (RV.cell 0 Z Z Z Z) (RV.tmp Z) .nil aF.nil
end Go.Proofs.YtmdlcmbplnhdnaaGreatDoor
namespace Go.Proofs.YtmdlcmbplnhdnaaGreatDoor
open Go Go.Sx
abbrev CT:=Hb
theorem Ea (l:aP) (h:l.length<=900):∃b,kA 1000 l=some b:=by
 unfold kA;have:=xA (step:=nS l) (Q:=λ_:Bool=>True) (λi:Int=>∃k:Nat,i=(k:Int)∧k<=l.length) (λi=>l.length - i.toNat) (λi f c a=>by
  obtain⟨k,rfl,g⟩:=c;unfold nS nR;by_cases e:k<l.length
  ·rw[if_pos (by omega),cB (by omega)];split
   ·exact⟨_,rfl,trivial⟩
   ·rw[fK (by omega)];exact a _ ⟨k+1,rfl,by omega⟩ (by omega)
  ·rw[if_neg (by omega)];exact⟨_,rfl,trivial⟩) 1000 0 ⟨0,rfl,by omega⟩ (by omega)
 obtain⟨b,d,_⟩:=this;exact⟨b,d⟩
theorem KZ (k:CT):∃b,pN 1000 k=some b:=by
 obtain⟨q,d⟩:=Ea [k.2.2.2.2] (by simp);have c:∀a,∃b,iI 1000 k a=some b:=by
  intro a;unfold iI lH;split
  ·exact⟨_,rfl⟩
  ·split
   ·exact⟨_,rfl⟩
   ·split
    ·split
     ·rw[bD d];exact⟨_,rfl⟩
     ·exact⟨_,rfl⟩
    ·exact⟨_,rfl⟩
 unfold pN
 repeat' split
 all_goals exact c _
theorem Tk {t:Nat} (i:t<4294967296):∃n,pE 1000 (t:Int)=some n:=by
 have g:(List.length Xl:Int)=256:=by decide +kernel
 have b:∀a:Nat,a<4294967296->0<=dV .u32 (a:Int) 255∧dV .u32 (a:Int) 255<256:=λa f=>by
  rw[show(255:Int)=((255:Nat):Int)from rfl,Ig f (by omega)];have:a &&& 255<=255:=Nat.and_le_right;omega
 have c:∀k:Nat,k<32->tV .u32 (t:Int) (k:Int)=((t / 2^k:Nat):Int):=λk h=>Qz h;have e:tV .u32 (t:Int) 24=((t / 2^24:Nat):Int):=c 24 (by omega);have d:tV .u32 (t:Int) 16=((t / 2^16:Nat):Int):=c 16 (by omega);have j:tV .u32 (t:Int) 8=((t / 2^8:Nat):Int):=c 8 (by omega);unfold pE;rw[g,e,d,j,cB (by decide),cB (by omega),cB (by decide),cB (b _ (by omega)),cB (by decide),cB (b _ (by omega)),cB (b _ i)];exact⟨_,rfl⟩
theorem Us (k:CT) {t:Nat} (h:t<4294967296) (e:Int):∃r,kC 1000 k (t:Int) e=some r:=by
 obtain⟨b,d⟩:=KZ k;obtain⟨q,g⟩:=Ea [(t:Int),e] (by simp);obtain⟨n,f⟩:=Tk h;have c:∀a,∃r,qO 1000 k (t:Int) e a=some r:=by
  intro a;unfold qO qP;split
  ·exact⟨_,rfl⟩
  ·split
   ·exact⟨_,rfl⟩
   ·rw[bD f];split<;>exact⟨_,rfl⟩
 unfold kC;rw[bD (show pN 1000 _=some b from d)];split
 ·exact⟨_,rfl⟩
 ·split
  ·exact c _
  ·rw[bD g];exact c _

def bI (p:sI) (g:GR):Ao:=(p,g,gW g g.2.length,eH g)
def uI (S:Ao) (R:List RL) (a:Nat) (c:bA):Nat:=Xm S R c &&& a
theorem QP (S:Ao) (R:List RL) (c:bA) (v:Nat):(Xm S R c).testBit v=(decide (v<S.2.1.2.length)&&decide (0<=gF S R c v)):=Kl _ v _
theorem Ln (S:Ao) (R:List RL) (a:Nat) (c:bA) (v:Nat):(uI S R a c).testBit v=true↔v<S.2.1.2.length∧0<=gF S R c v∧a.testBit v=true:=by
 unfold uI;rw[Nat.testBit_and,QP,Bool.and_eq_true,Bool.and_eq_true,decide_eq_true_eq,decide_eq_true_eq,and_assoc]
theorem abh {S:Ao} (a:VG S.2.1) (R:List RL) (c:bA):Xm S R c<4294967296:=Rj _ (by have:=a.n24;omega)
theorem abi (S:Ao) (R:List RL) (a:Nat) (c:bA):Xi S.2.1 (uI S R a c):=λi b=>((Ln S R a c i).1 b).1
def YT (a:oY):aP:=a.map λt=>((t:Nat):Int)
end Go.Proofs.YtmdlcmbplnhdnaaGreatDoor
namespace Go.Proofs.YtmdlcmbplnhdnaaGreatDoor
open Go.Sx
def tQ  (a:aP):Option aP:=
 some (a)
def pR (c:aP×Int) (b:(aP×Int)->Option aP) (a:aP):Option aP:=
 b (a,(wI .i64 (c.2+(1:Int))))
def mX (b:aP) (d:Int) (a:aP×Int) (c:(aP×Int)->Option aP):Option aP:=
 if a.2<d then(if(List.length b:Int)=(0:Int)then(ck ((List.length a.1:Int)+(List.length ([(4294967295:Int)]):Int)<=1099511627) (pR a c (a.1++([(4294967295:Int)]))))else(ck ((List.length b:Int)≠0) (ck (0<=(Int.tmod a.2 (List.length b:Int))∧(Int.tmod a.2 (List.length b:Int))<(List.length b:Int)) (ck ((List.length b:Int)≠0) (ck ((24:Int)≠0) (ck (0<=(wI .u64 (Int.tmod (wI .i64 (Int.tdiv a.2 (List.length b:Int))) (24:Int)))) (ck (0<=(wI .u64 ((24:Int) - (wI .u64 (Int.tmod (wI .i64 (Int.tdiv a.2 (List.length b:Int))) (24:Int)))))) (ck ((List.length a.1:Int)+(List.length ([(dV .u32 (Lb .u32 (Bv .u32 (dV .u32 (at' b (Int.tmod a.2 (List.length b:Int))) (16777215:Int)) (wI .u64 (Int.tmod (wI .i64 (Int.tdiv a.2 (List.length b:Int))) (24:Int)))) (tV .u32 (dV .u32 (at' b (Int.tmod a.2 (List.length b:Int))) (16777215:Int)) (wI .u64 ((24:Int) - (wI .u64 (Int.tmod (wI .i64 (Int.tdiv a.2 (List.length b:Int))) (24:Int))))))) (16777215:Int))]):Int)<=1099511627) (pR a c (a.1++([(dV .u32 (Lb .u32 (Bv .u32 (dV .u32 (at' b (Int.tmod a.2 (List.length b:Int))) (16777215:Int)) (wI .u64 (Int.tmod (wI .i64 (Int.tdiv a.2 (List.length b:Int))) (24:Int)))) (tV .u32 (dV .u32 (at' b (Int.tmod a.2 (List.length b:Int))) (16777215:Int)) (wI .u64 ((24:Int) - (wI .u64 (Int.tmod (wI .i64 (Int.tdiv a.2 (List.length b:Int))) (24:Int))))))) (16777215:Int))])))))))))))else(tQ  (a.1))
def oQ (U:Nat) (a:aP) (b:Int):Option aP:=
 bL (mX a b) U (([]:aP),(0:Int))
theorem aat:aR Tryz.prog 13:=Tryz.call13
theorem Jl (U:Nat) {a:aP} {i:Int} (n:Value) (r:aP) (h:oQ U a i=some r):
  aV Tryz.prog 13 #[n,vI (i)] [Sl wF n a] (λx:Value=>x) (λx l=>Ar nZ x r::l) (λ_ l=>l):=by
 refine aV.of Tryz.func13 Z Tryz.ntmps13 Z λc=>?_;unfold oQ at h;refine aT<|aD Z<|aM<|aT<|aD Z<|aM<|aJ<|Cr (B:=Value) (λj=>tQ  j=some r) (λj k=>[(5,k)]) (λj k=>[Ar nZ k j]) ?_ ?_
 ·refine aT<|aD Z<|aM<|aU<|iW (gR nZ)<|fD (B:=Value) (mX a i) (λb f=>[(0,n),(1,vI (i)),(5,f),(6,vI (b.2))]) (λb f=>[Ar nZ f b.1]) (([]:aP),(0:Int)) (kE) h SF (aY.refl _) ?_;intro w b f h;refine aJ<|aT<|aA Z<|aA Z<|dA Z<|aM ?_;refine fE h Z (λh=>?_) λh=>?_
  ·refine cU<|aJ<|Cr (B:=Value) (λd=>pR b (bL (mX a i) w) d=some r) (λd g=>[(0,n),(1,vI (i)),(5,g),(6,vI (b.2))]) (λd g=>[Ar nZ g d]) ?_ ?_
   ·refine aU<|aJ<|aT<|aA Z<|jX (aE.fact 0 Z) Z<|cJ Z<|aM ?_;refine fE h Z (λh=>?_) λh=>?_
    ·refine aT<|aA Z<|aG (bW (e:=nZ) ([(4294967295:Int)]) [(0,vU (4294967295:Int))] Z Z Z Z (lQ (vU (4294967295:Int)) Z) Z Z Z) Z λC=>dO h λo h=>aG (eL 1 tT Z Z Z (bG (aE.res 0 Z) tT) Z Z Z Z o Z) Z λy=>aD Z<|aM<|uV<|gK<|Av<|Aw ?_;exact cV (b.1++([(4294967295:Int)])) (y) h SF (aY.ix [1] Z Z) (aF.refl _ _)
    refine cU<|aJ ?_;refine JR.start [0,0,0,4,14,31,63,0,0,256,896,1920,3968,127,16383] 14 mixedOrders (by decide +kernel) ?_;refine JR.open (by exact rfl) ?_;refine bH Z<|bH Z<|bH Z<|bJ Z .nil (mE 0 Z) (iU Z (aE.fact 0 Z) Z) aO.z<|dO h λp h=>iD Z (MM Z Z p)<|dO h λm h=>bJ Z .nil (mE 0 Z) (bE Z Z (aE.fact 0 Z) Z Z m) aO.z<|bJ Z .nil (mE 0 Z) (b_ Z (aE.fact 0 Z) Z Z Z FW m) aO.z<|bH Z<|bH Z<|bJ Z .nil (mE 0 Z) (iU Z (aE.fact 0 Z) Z) aO.z<|dO h λq h=>iD Z (Uq Z Z q)<|dO h λs h=>iD Z (MM Z Z s)<|iD Z (OT Z Z Z)<|iD Z (mY Z)<|bR 14 Z Z<|aD Z<|aM<|aT<|aA Z<|yM Z<|aD Z<|aM<|aQ<|aA Z<|aA Z<|aA Z<|dO h λt h=>aC (MN Z Z t) Z<|aA Z<|aA Z<|aC (pX Z Z) Z<|dO h λu h=>aC (JS Z Z u) Z<|aC (XI Z Z) Z<|yM Z<|aG (bW (e:=nZ) ([(dV .u32 (Lb .u32 (Bv .u32 (dV .u32 (at' a (Int.tmod b.2 (List.length a:Int))) (16777215:Int)) (wI .u64 (Int.tmod (wI .i64 (Int.tdiv b.2 (List.length a:Int))) (24:Int)))) (tV .u32 (dV .u32 (at' a (Int.tmod b.2 (List.length a:Int))) (16777215:Int)) (wI .u64 ((24:Int) - (wI .u64 (Int.tmod (wI .i64 (Int.tdiv b.2 (List.length a:Int))) (24:Int))))))) (16777215:Int))]) [(0,vU (dV .u32 (Lb .u32 (Bv .u32 (dV .u32 (at' a (Int.tmod b.2 (List.length a:Int))) (16777215:Int)) (wI .u64 (Int.tmod (wI .i64 (Int.tdiv b.2 (List.length a:Int))) (24:Int)))) (tV .u32 (dV .u32 (at' a (Int.tmod b.2 (List.length a:Int))) (16777215:Int)) (wI .u64 ((24:Int) - (wI .u64 (Int.tmod (wI .i64 (Int.tdiv b.2 (List.length a:Int))) (24:Int))))))) (16777215:Int)))] Z Z Z Z (lQ (vU (dV .u32 (Lb .u32 (Bv .u32 (dV .u32 (at' a (Int.tmod b.2 (List.length a:Int))) (16777215:Int)) (wI .u64 (Int.tmod (wI .i64 (Int.tdiv b.2 (List.length a:Int))) (24:Int)))) (tV .u32 (dV .u32 (at' a (Int.tmod b.2 (List.length a:Int))) (16777215:Int)) (wI .u64 ((24:Int) - (wI .u64 (Int.tmod (wI .i64 (Int.tdiv b.2 (List.length a:Int))) (24:Int))))))) (16777215:Int))) Z) Z Z Z) Z λD=>dO h λv h=>aG (eL 1 tT Z Z Z (bG (aE.res 0 Z) tT) Z Z Z Z v Z) Z λA=>aD Z<|eN<|oM ?_;exact cV (b.1++([(dV .u32 (Lb .u32 (Bv .u32 (dV .u32 (at' a (Int.tmod b.2 (List.length a:Int))) (16777215:Int)) (wI .u64 (Int.tmod (wI .i64 (Int.tdiv b.2 (List.length a:Int))) (24:Int)))) (tV .u32 (dV .u32 (at' a (Int.tmod b.2 (List.length a:Int))) (16777215:Int)) (wI .u64 ((24:Int) - (wI .u64 (Int.tmod (wI .i64 (Int.tdiv b.2 (List.length a:Int))) (24:Int))))))) (16777215:Int))])) (A) h SF (aY.ix [1] Z Z) (aF.refl _ _)
   intro d g h;unfold pR at h;refine aQ<|aA Z<|cQ Z<|aD Z<|aM ?_;exact AK (d,(wI .i64 (b.2+(1:Int)))) (g) h SF Z
  refine fS ?_;exact jL (b.1) (f) h SF Z
 intro j k h;unfold tQ at h;refine aT<|aA Z<|aD Z<|aM<|aS ?_;cases h;exact gJ (k) Z Z (RV.tmp Z) (aY.refl _) aF.nil
end Go.Proofs.YtmdlcmbplnhdnaaGreatDoor
namespace Go.Proofs.YtmdlcmbplnhdnaaGreatDoor
open Go Go.Sx
theorem On (x:Int):0<=wI .u64 x:=by
 rw[Eg];have:IntKind.u64.wrap x=x%18446744073709551616:=rfl;rw[this];omega
theorem TD (l:aP) {n:Nat} (y:n<=900):∃ws,oQ 1000 l (n:Int)=some ws∧ws.length=n∧∀k:Nat,k<ws.length->∃m:Nat,at' ws (k:Int)=(m:Int)∧m<4294967296:=by
 unfold oQ;obtain⟨⟨ws,i⟩,⟨c,b,d⟩,t⟩:=CP (step:=mX l (n:Int)) (K:=λz=>some z.1) n
  (λk z=>z.2=(k:Int)∧z.1.length=k∧∀j:Nat,j<k->∃m:Nat,at' z.1 (j:Int)=(m:Int)∧m<4294967296) (λk z q v h=>by
  obtain⟨ws,i⟩:=z;obtain⟨c,b,d⟩:=h;dsimp only at c b d;subst c;have a:∀m:Nat,m<4294967296->∀j:Nat,j<k+1->∃p:Nat,at' (ws++[(m:Int)]) (j:Int)=(p:Int)∧p<4294967296:=λm o j u=>by
   rw[LS ws _ (by omega)];by_cases e:j<ws.length
   ·rw[if_pos e];exact d j (by omega)
   ·rw[if_neg e];exact⟨m,rfl,o⟩
  have f:∀m:Nat,(List.length ws:Int)+(List.length [(m:Int)]:Int)<=1099511627:=λm=>by simp;omega
  unfold mX pR;dsimp only;rw[if_pos (by omega),fK (by omega)];by_cases x:l.length=0
  ·rw[if_pos (by omega),cB (show(List.length ws:Int)+(List.length [(4294967295:Int)]:Int)<=1099511627 from f 4294967295)];exact⟨_,⟨rfl,by simp[b],a 4294967295 (by omega)⟩,rfl⟩
  ·have r:Int.tmod (k:Int) (l.length:Int)=((k%l.length:Nat):Int):=rfl;have w:k%l.length<l.length:=Nat.mod_lt _ (by omega);rw[if_neg (by omega),cB (by omega),cB (by rw[r];omega),cB (by omega),cB (by decide),cB (On _),cB (On _)];have s:∀X:Int,∃m:Nat,dV .u32 X (16777215:Int)=(m:Int)∧m<4294967296:=λX=>⟨_,La _ _,Nat.lt_of_le_of_lt Nat.and_le_left (KS _)⟩
   obtain⟨m,o,g⟩:=s (Lb .u32 (Bv .u32 (dV .u32 (at' l (Int.tmod (k:Int) (l.length:Int))) (16777215:Int)) (wI .u64 (Int.tmod (wI .i64 (Int.tdiv (k:Int) (l.length:Int))) (24:Int)))) (tV .u32 (dV .u32 (at' l (Int.tmod (k:Int) (l.length:Int))) (16777215:Int)) (wI .u64 ((24:Int) - (wI .u64 (Int.tmod (wI .i64 (Int.tdiv (k:Int) (l.length:Int))) (24:Int)))))));rw[o,cB (f m)];exact⟨_,⟨rfl,by simp[b],a m g⟩,rfl⟩) (λz q h=>by
  obtain⟨ws,i⟩:=z;obtain⟨c,b,d⟩:=h;dsimp only at c;subst c;unfold mX tQ;dsimp only;rw[if_neg (by omega)]) 1000 (([]:aP),(0:Int)) ⟨rfl,rfl,λj u=>by omega⟩ (by omega)
 exact⟨ws,t,b,λk v=>d k (by dsimp only at b;omega)⟩

def Lj (c:bA) (v:Nat):Int:=at' (at' c (v:Int)) 0
def CS (g:GR) (c:bA) (v i:Nat):Int:=at' (at' c (fP (row g v) i).1) 0
theorem LE {g:GR} {c:bA} {v i u:Nat} (h:(fP (row g v) i).1=(u:Int)):CS g c v i=Lj c u:=by unfold CS Lj;rw[h]
def exX:E:= .ite (.bi 37 (.ag 24 (.lf 12 0)) (.lf 6 0)) (.bi 33 (.ag 24 (.lf 12 0)) (.lf 1 1)) (.lf 6 0)
def exY:E:= .ag 23 (.bi 35 (.lf 12 0) (.ag 24 (.lf 12 0)))
def guT:E:= .bi 41 (.lf 10 0) (.bi 42 (.bi 36 (.lf 5 0) (.lf 1 0)) (.bi 36 (.lf 5 1) (.lf 4 0)))
def guB:E:= .bi 41 (.un 19 (.lf 10 0)) (.bi 42 (.bi 36 (.lf 5 0) exX) (.bi 36 (.lf 5 1) exY))
def RB:List RL:=[(guT,[(0,.lf 1 0),(1,.lf 4 0)]),(guB,[(0,exX),(1,exY)])]
theorem aeb (g:GR) (v:Nat):lo g (at' JJ ((0:Nat):Int)) v=0:=rfl
theorem agW (g:GR) (v:Nat):lo g (at' JJ ((1:Nat):Int)) v = -1:=rfl
theorem adR (g:GR) (v:Nat):hi g (at' JJ ((0:Nat):Int)) v=(g.2.length:Int):=by
 show(0:Int)+1*(g.2.length:Int)+0*gW g g.1.length=_;omega
theorem agT (g:GR) (v:Nat):hi g (at' JJ ((1:Nat):Int)) v=((row g v).length:Int) - 1:=rfl
def Rx (c:bA) (v:Nat):Int:=at' (at' c (v:Int)) 1
def Nm (g:GR) (c:bA) (v:Nat):aP:=(List.range (row g v).length).map λq=>CS g c v q
def XB (g:GR) (c:bA) (v:Nat):Int:=if Bf (Nm g c v)<(g.1.length:Int)then Xn (wI .i64 (Bf (Nm g c v)+1))else(g.1.length:Int)
def YB (g:GR) (c:bA) (v:Nat):Int:=sA ((List.range (row g v).length).map λq=>Bu (decide (CS g c v q=Bf (Nm g c v))))
def TB (g:GR) (c:bA) (v:Nat):fG:=if v=0 then(0,-1)else(XB g c v,YB g c v)
def Gm (g:GR) (c:bA) (v:Nat):Prop:=Lj c v=(TB g c v).1∧Rx c v=(TB g c v).2
theorem uG (b:Bool):Bu b≠0↔b=true:=by cases b<;>simp[Bu]
theorem adt (b:Bool):Bu b=0↔b=false:=by cases b<;>simp[Bu]
section
variable {p:sI} {g:GR} {c:List (List Int)} {v:Nat}
theorem abq:jF (bI p g) c v exX=XB g c v:=by
 show(if Bu (decide (Bf (Nm g c v)<(g.1.length:Int)))≠0 then Xn (wI .i64 (Bf (Nm g c v)+1))else(g.1.length:Int))=_;unfold XB;by_cases h:Bf (Nm g c v)<(g.1.length:Int)
 ·rw[if_pos h,if_pos (by rw[uG];exact decide_eq_true h)]
 ·rw[if_neg h,if_neg (by rw[uG];simpa using h)]
theorem abr:jF (bI p g) c v exY=YB g c v:=rfl
theorem abu:jF (bI p g) c v guT=Bu (decide (Bu (decide ((v:Int)=0))≠0)&&decide (Bu (decide (Bu (decide (Lj c v≠0))≠0)||decide (Bu (decide (Rx c v ≠ -1))≠0))≠0)):=rfl
theorem abt:jF (bI p g) c v guB=Bu (decide (Bu (decide (Bu (decide ((v:Int)=0))=0))≠0)&&decide (Bu (decide (Bu (decide (Lj c v≠jF (bI p g) c v exX))≠0)||decide (Bu (decide (Rx c v≠jF (bI p g) c v exY))≠0))≠0)):=rfl
theorem QZ:jF (bI p g) c v guT≠0↔v=0∧(Lj c v≠0∨Rx c v ≠ -1):=by
 rw[abu,uG,Bool.and_eq_true,decide_eq_true_eq,decide_eq_true_eq,uG,uG,Bool.or_eq_true,decide_eq_true_eq,decide_eq_true_eq,decide_eq_true_eq,uG,uG,decide_eq_true_eq,decide_eq_true_eq];constructor
 ·rintro⟨a,b⟩;exact⟨by omega,b⟩
 ·rintro⟨a,b⟩;exact⟨by omega,b⟩
theorem QY:jF (bI p g) c v guB≠0↔v≠0∧(Lj c v≠XB g c v∨Rx c v≠YB g c v):=by
 rw[abt,abq,abr,uG,Bool.and_eq_true,decide_eq_true_eq,decide_eq_true_eq,uG,uG,Bool.or_eq_true,decide_eq_true_eq,decide_eq_true_eq,decide_eq_true_eq,adt,uG,uG,decide_eq_true_eq,decide_eq_true_eq,decide_eq_false_iff_not];constructor
 ·rintro⟨a,b⟩;exact⟨by omega,b⟩
 ·rintro⟨a,b⟩;exact⟨by omega,b⟩
theorem Wv (h:0<=gF (bI p g) RB c v):(gF (bI p g) RB c v=0∧v=0∧¬Gm g c v)∨(gF (bI p g) RB c v=1∧v≠0∧¬Gm g c v):=by
 obtain⟨i,k,j,l⟩:=(Bh (bI p g) RB c v).resolve_left (λe=>by omega);have j:i<2:=j
 match i,j with
 |0,_=>
  obtain⟨a,b⟩:=QZ.1 l;refine .inl ⟨k,a,?_⟩;unfold Gm TB;rw[if_pos a];rintro⟨d,f⟩;rcases b with b|b
  ·exact b d
  ·exact b f
 |1,_=>
  obtain⟨a,b⟩:=QY.1 l;refine .inr ⟨k,a,?_⟩;unfold Gm TB;rw[if_neg a];rintro⟨d,f⟩;rcases b with b|b
  ·exact b d
  ·exact b f
theorem Tp (h:¬0<=gF (bI p g) RB c v):Gm g c v:=by
 have e:gF (bI p g) RB c v = -1:=by
  rcases Bh (bI p g) RB c v with e|⟨i,f,_⟩
  ·exact e
  ·omega
 have b:¬jF (bI p g) c v guT≠0:=λq=>q (Ey.1 e 0 (by decide));have d:¬jF (bI p g) c v guB≠0:=λq=>q (Ey.1 e 1 (by decide));rw[QZ]at b;rw[QY]at d;unfold Gm TB;by_cases a:v=0
 ·rw[if_pos a];exact⟨Decidable.not_not.1 λq=>b ⟨a,.inl q⟩,Decidable.not_not.1 λq=>b ⟨a,.inr q⟩⟩
 ·rw[if_neg a];exact⟨Decidable.not_not.1 λq=>d ⟨a,.inl q⟩,Decidable.not_not.1 λq=>d ⟨a,.inr q⟩⟩
theorem Kt:¬0<=gF (bI p g) RB c v↔Gm g c v:=by
 refine⟨Tp,λh q=> ?_⟩
 rcases Wv q with⟨_,_,e⟩|⟨_,_,e⟩<;>exact e h
theorem VU {x:Int} (h:x∈Nm g c v):∃i,i<(row g v).length∧CS g c v i=x:=by
 obtain⟨i,b,a⟩:=List.mem_map.1 h;exact⟨i,List.mem_range.1 b,a⟩
end

def Cl (k:Nat) (x y:Int):Prop:=(y<(k:Int)->x=y)∧((k:Int)<=y->(k:Int)<=x)
def n_ (g:GR) (d:aP) (v:Nat) (p:Int):Prop:=(∃i:Nat,i<(row g v).length∧p=i∧at' d (fP (row g v) i).1=D d v - 1∧∀k,k<i->¬at' d (fP (row g v) k).1=D d v - 1)∨(p = -1∧∀k,k<(row g v).length->¬at' d (fP (row g v) k).1=D d v - 1)
theorem n_.uniq {g:GR} {d:aP} {v:Nat} {p l:Int} (h:n_ g d v p) (m:n_ g d v l):p=l:=by
 rcases h with⟨i,a,b,c,n⟩|⟨a,b⟩<;>rcases m with⟨j,e,f,k,o⟩|⟨e,f⟩
 ·have:i=j:=by
   rcases Nat.lt_trichotomy i j with q|q|q
   ·exact absurd c (o i q)
   ·exact q
   ·exact absurd k (n j q)
  omega
 ·exact absurd c (f i a)
 ·exact absurd k (b j e)
 ·omega
section
variable {g:GR} {d:List Int} {c:List (List Int)} (hV:VG g) (hD:rV g 0 d) (h0:∀v,v<g.2.length->0<=D d v)
 include hV hD h0
theorem aeo (s:∀u,u<g.2.length->Lj c u=D d u) {v:Nat} (l:v<g.2.length):(TB g c v).1=D d v∧n_ g d v (TB g c v).2:=by
 have J:=hV.n24;have O:=hV.n1;have I:=hV.len;have b:∀i u:Nat,(fP (row g v) i).1=(u:Int)->u<g.2.length->CS g c v i=D d u∧at' d (fP (row g v) i).1=D d u:=λi u a f=>⟨by rw[LE a];exact s u f,by rw[a]⟩
 unfold TB;by_cases q:v=0
 ·subst q;rw[if_pos Z];have Q:=(hD.zero 0 l).2 Z;refine⟨Q.symm,.inr ⟨rfl,λk G e=> ?_⟩⟩
  obtain⟨u,f,a,_⟩:=hV.port l G;rw[(b k u a f).2]at e;have:=h0 u f;omega
 ·rw[if_neg q];have z:0<D d v:=by
   have:=h0 v l;have P:D d v≠0:=λe=>q ((hD.zero v l).1 e);omega
  obtain⟨R,H,⟨B,t,A⟩,C⟩:=hD.near v l z;have n:CS g c v B=D d v - 1:=by rw[(b B R A H).1,C]
  have E:∀i,i<(row g v).length->D d v - 1<=CS g c v i:=λi F=>by
   obtain⟨u,f,a,r⟩:=hV.port l F;rw[(b i u a f).1];have:=(hD.next u f (h0 u f) v l (hV.back l r)).2;omega
  have o:Bf (Nm g c v)=D d v - 1:=by
   have S:Bf (Nm g c v)<=D d v - 1:=n▸Rn (List.mem_map.2 ⟨B,List.mem_range.2 t,rfl⟩);rcases Nt (Nm g c v)with e|e
   ·have:=hD.hi v l;omega
   ·obtain⟨i,F,T⟩:=VU e;have:=E i F;omega
  have M:=hD.hi v l;have K:XB g c v=D d v:=by
   unfold XB;rw[o,if_pos (by omega),wr (by omega) (by omega)];unfold Xn;omega
  refine⟨K,?_⟩
  show n_ g d v (YB g c v);obtain⟨m,U,h,y⟩:=Fh (p:=λi=>i<(row g v).length∧CS g c v i=D d v - 1) B ⟨t,n⟩;have L:YB g c v=(m:Int):=by
   unfold YB;rw[o];refine qR (by simpa using h.1) ?_ λj N=> ?_
   ·rw[nD _ h.1,decide_eq_true h.2];simp[Bu]
   ·have w:j<(row g v).length:=by omega
    rw[nD _ w,decide_eq_false λe=>y j N ⟨w,e⟩];simp[Bu]
  refine .inl ⟨m,h.1,L,?_,λk G e=> ?_⟩
  ·obtain⟨u,f,a,_⟩:=hV.port l h.1;rw[(b m u a f).2,<-(b m u a f).1];exact h.2
  ·have x:k<(row g v).length:=by omega
   obtain⟨u,f,a,_⟩:=hV.port l x;rw[(b k u a f).2,<-(b k u a f).1]at e;exact y k G ⟨x,e⟩
end
structure TrK (g:GR) (d:aP) (k:Nat) (c:bA):Prop where
 near:∀v,v<g.2.length->D d v<(k:Int)->Lj c v=D d v∧n_ g d v (Rx c v)
 far:∀v,v<g.2.length->(k:Int)<=D d v->(k:Int)<=Lj c v
def TrT (g:GR) (d:aP) (k:Nat) (c:bA) (v:Nat):Prop:=v<g.2.length∧((D d v<=(k:Int)∧¬(Lj c v=D d v∧n_ g d v (Rx c v)))∨((k:Int)<D d v∧Lj c v<=(k:Int)))
section
variable {g:GR} {d:List Int} {c c':List (List Int)} {k t:Nat} (hV:VG g) (hD:rV g 0 d) (h0:∀v,v<g.2.length->0<=D d v)
 include hV hD h0
theorem abZ (h:TrK g d k c) {v:Nat} (w:v<g.2.length):(D d v<=(k:Int)->(TB g c v).1=D d v∧n_ g d v (TB g c v).2)∧((k:Int)<D d v->(k:Int)<(TB g c v).1):=by
 have P:=hV.n24;have W:=hV.n1;have O:=hV.len;have T:=hD.hi v w;have x:∀i,i<(row g v).length->∃u,u<g.2.length∧at' d (fP (row g v) i).1=D d u∧D d v - 1<=D d u∧(D d u<(k:Int)->CS g c v i=D d u)∧((k:Int)<=D d u->(k:Int)<=CS g c v i):=λi b=>by
  obtain⟨u,n,y,A⟩:=hV.port w b;have:=(hD.next u n (h0 u n) v w (hV.back w A)).2;rw[LE y,y];exact⟨u,n,rfl,by omega,λq=>(h.near u n q).1,λq=>h.far u n q⟩
 unfold TB;by_cases z:v=0
 ·subst z;rw[if_pos Z];have Y:=(hD.zero 0 w).2 Z;refine⟨λ_=>⟨Y.symm,.inr ⟨rfl,λi b e=> ?_⟩⟩,λq=>by omega⟩
  obtain⟨u,n,y,_⟩:=x i b;have:=h0 u n;omega
 rw[if_neg z];have E:0<D d v:=by
  have:=h0 v w;have X:D d v≠0:=λe=>z ((hD.zero v w).1 e);omega
 have r:Bf (Nm g c v)=1073741824∨∃i,i<(row g v).length∧CS g c v i=Bf (Nm g c v):=by
  rcases Nt (Nm g c v)with e|e
  ·exact .inl e
  ·exact .inr (VU e)
 refine⟨λU=> ?_,λU=> ?_⟩
 ·obtain⟨u0,K,⟨L,B,F⟩,H⟩:=hD.near v w E;have o:CS g c v L=D d v - 1:=by
   rw[LE F,(h.near u0 K (by omega)).1,H]
  have f:∀i,i<(row g v).length->D d v - 1<=CS g c v i∧(CS g c v i=D d v - 1↔at' d (fP (row g v) i).1=D d v - 1):=λi b=>by
   obtain⟨u,n,e,M,N,G⟩:=x i b;by_cases q:D d u<(k:Int)
   ·have:=N q;omega
   ·have:=G (by omega);omega
  have s:Bf (Nm g c v)=D d v - 1:=by
   have M:Bf (Nm g c v)<=D d v - 1:=o▸Rn (List.mem_map.2 ⟨L,List.mem_range.2 B,rfl⟩);rcases r with e|⟨i,b,S⟩
   ·omega
   ·have:=(f i b).1;omega
  have Q:XB g c v=D d v:=by
   unfold XB;rw[s,if_pos (by omega),wr (by omega) (by omega)];unfold Xn;omega
  refine⟨Q,?_⟩
  show n_ g d v (YB g c v);obtain⟨m,V,a,C⟩:=Fh (p:=λi=>i<(row g v).length∧CS g c v i=D d v - 1) L ⟨B,o⟩;have R:YB g c v=(m:Int):=by
   unfold YB;rw[s];refine qR (by simpa using a.1) ?_ λj J=> ?_
   ·rw[nD _ a.1,decide_eq_true a.2];simp[Bu]
   ·have l:j<(row g v).length:=by omega
    rw[nD _ l,decide_eq_false λe=>C j J ⟨l,e⟩];simp[Bu]
  refine .inl ⟨m,a.1,R,((f m a.1).2).1 a.2,λj J e=> ?_⟩;have l:j<(row g v).length:=by omega
  exact C j J ⟨l,((f j l).2).2 e⟩
 ·have I:∀i,i<(row g v).length->(k:Int)<=CS g c v i:=λi b=>by
   obtain⟨u,n,e,M,N,G⟩:=x i b;exact G (by omega)
  have V:(k:Int)<=Bf (Nm g c v):=by
   rcases r with e|⟨i,b,S⟩
   ·omega
   ·have:=I i b;omega
  show(k:Int)<XB g c v;unfold XB;by_cases q:Bf (Nm g c v)<(g.1.length:Int)
  ·rw[if_pos q,wr (by omega) (by omega)];unfold Xn;omega
  ·rw[if_neg q];omega
theorem Zu (h:TrK g d k c) {v:Nat} (f:TrT g d k c v):¬Gm g c v:=by
 obtain⟨m,f⟩:=f;obtain⟨a,b⟩:=abZ hV hD h0 h m;rintro⟨n,o⟩;rcases f with⟨e,i⟩|⟨e,i⟩
 ·obtain⟨j,l⟩:=a e;exact i ⟨by rw[n,j],by rw[o];exact l⟩
 ·have:=b e;omega
 omit hV hD in
theorem Tw (hc:∀v,v<g.2.length->0<=Lj c v):TrK g d 0 c:=⟨λv hv q=>by have:=h0 v hv;omega,λv hv _=>hc v hv⟩
 omit hV hD h0 in
theorem WH (h:TrK g d k c) (e:∀v,¬TrT g d k c v):TrK g d (k+1) c:=by
  have b:∀v,v<g.2.length->(D d v<=(k:Int)->Lj c v=D d v∧n_ g d v (Rx c v))∧((k:Int)<D d v->(k:Int)<Lj c v):=λv a=>
   ⟨λq=>Classical.not_not.1 λr=>e v ⟨a,.inl ⟨q,r⟩⟩,λq=>Decidable.not_not.1 λf=>e v ⟨a,.inr ⟨q,by omega⟩⟩⟩
  exact⟨λv a q=>(b v a).1 (by omega),λv a q=>by have:=(b v a).2 (by omega);omega⟩
end
theorem aec {g:GR} {a:List Cp} (b:tU g a) {x:Nat} (c:x<a.length) (v:Nat):lo g (at' a (x:Int)) v<=hi g (at' a (x:Int)) v:=by
 rcases b.kind x c with k|k|k
 ·have h:=(b.range x c k).2.1;unfold lo hi at h ⊢;rw[k]at h ⊢;simpa using h
 ·unfold lo hi;rw[k];simp
 ·unfold lo hi;rw[k];simp;omega
theorem SA {g:GR} {a:List Cp} (b:tU g a) {x:Nat} (c:x<a.length) (v:Nat) (y:Int):lo g (at' a (x:Int)) v<=FZ (at' a (x:Int)).2.1 (DW g a v x) y∧FZ (at' a (x:Int)).2.1 (DW g a v x) y<=hi g (at' a (x:Int)) v:=by
 have h:=aec b c v;unfold FZ DW;dsimp only;split
 ·assumption
 ·split
  ·rename_i k;unfold lo hi;rw[k];simp;omega
  ·split<;>omega
section
variable {S:Ao} {vars:List Cp} {R:List RL} {c:List (List Int)} {t v:Nat}
theorem WA (f:tU S.2.1 vars) {a:List Int} (d:a.length=vars.length) (h:∀x,x<vars.length->lo S.2.1 (at' vars (x:Int)) v<=at' a (x:Int)∧at' a (x:Int)<=hi S.2.1 (at' vars (x:Int)) v) (s:Nat×E):
  (Gy S vars c v a s).length=vars.length∧∀x,x<vars.length->lo S.2.1 (at' vars (x:Int)) v<=at' (Gy S vars c v a s) (x:Int)∧at' (Gy S vars c v a s) (x:Int)<=hi S.2.1 (at' vars (x:Int)) v:=by
 unfold Gy;refine⟨by rw[List.length_set,d],λx b=> ?_⟩
 by_cases g:s.1<a.length
 ·rw[u_ a s.1 x _ g];split
  ·rename_i e;rw[<-e];exact SA f b v _
  ·exact h x b
 ·rw[List.set_eq_of_length_le (by omega)];exact h x b
theorem Km (k:tU S.2.1 vars) (h:Jw S.2.1 c vars) (j:v<S.2.1.2.length) (i:Int):(D_ S vars R c v i).length=vars.length∧∀x,x<vars.length->lo S.2.1 (at' vars (x:Int)) v<=at' (D_ S vars R c v i) (x:Int)∧at' (D_ S vars R c v i) (x:Int)<=hi S.2.1 (at' vars (x:Int)) v:=by
 have g:∀(l:List (Nat×E)) (d:List Int),d.length=vars.length->(∀x,x<vars.length->lo S.2.1 (at' vars (x:Int)) v<=at' d (x:Int)∧at' d (x:Int)<=hi S.2.1 (at' vars (x:Int)) v)->
   (l.foldl (Gy S vars c v) d).length=vars.length∧∀x,x<vars.length->lo S.2.1 (at' vars (x:Int)) v<=at' (l.foldl (Gy S vars c v) d) (x:Int)∧at' (l.foldl (Gy S vars c v) d) (x:Int)<=hi S.2.1 (at' vars (x:Int)) v:=by
  intro l
  induction l with
  |nil=>intro d e f;exact⟨e,f⟩
  |cons s l m=>
   intro d e f;obtain⟨a,b⟩:=WA (c:=c) k e f s;exact m _ a b
 exact g _ _ (h.row v j) (h.ok v j)
theorem Tt (e:tU S.2.1 vars) (a:Jw S.2.1 c vars):Jw S.2.1 (o_ S vars R c t) vars:=by
 have d:=a.len;refine⟨by rw[Kv,d],λv b=> ?_,λv b x f=> ?_⟩
 ·rw[Jb (by omega)];split
  ·exact(Km e a b _).1
  ·exact a.row v b
 ·unfold val;rw[Jb (by omega)];split
  ·exact(Km e a b _).2 x f
  ·exact a.ok v b x f
end
theorem Ps (a b:aP):sA (a++b)=if 0<=sA a then sA a else if 0<=sA b then(a.length:Int)+sA b else -1:=by
 unfold sA;rw[List.findIdx?_append];cases c:a.findIdx? nz with
 |some i=>simp
 |none=>
  cases d:b.findIdx? nz with
  |some i=>simp;omega
  |none=>simp
section
variable {S:Ao} {A B R:List RL} {vars:List Cp} {c:List (List Int)} {v:Nat}
theorem Ku:gF S (A++B) c v=if 0<=gF S A c v then gF S A c v else if 0<=gF S B c v then(A.length:Int)+gF S B c v else -1:=by
 unfold gF;rw[List.map_append,Ps,List.length_map]
theorem C_ {i:Nat} (b:i<R.length) (d:jF S c v (at' R (i:Int)).1≠0) (f:∀j:Nat,j<i->jF S c v (at' R (j:Int)).1=0):gF S R c v=(i:Int):=by
 have e:∀j:Nat,j<R.length->at' (R.map λr=>jF S c v r.1) (j:Int)=jF S c v (at' R (j:Int)).1:=λj a=>by
  rw[kT (by simpa using a),kT a];simp
 exact qR (by simpa using b) (by rw[e i b];exact d) λj a=>by rw[e j (by omega)];exact f j a
end

section
variable {p:sI} {g:GR} {W:List Cp} {R':List RL} {c:List (List Int)} {v t:Nat}
theorem UR (d:Jw g c (JJ++W)) (e:v<g.2.length):(0<=Lj c v∧Lj c v<=(g.2.length:Int)) ∧ -1<=Rx c v∧Rx c v<=((row g v).length:Int) - 1:=by
 have a:=d.ok v e 0 (by show 0<W.length+2;omega);have b:=d.ok v e 1 (by show 1<W.length+2;omega);have f:lo g (at' (JJ++W) ((0:Nat):Int)) v=0:=aeb g v;have h:hi g (at' (JJ++W) ((0:Nat):Int)) v=(g.2.length:Int):=adR g v;have i:lo g (at' (JJ++W) ((1:Nat):Int)) v = -1:=agW g v;have j:hi g (at' (JJ++W) ((1:Nat):Int)) v=((row g v).length:Int) - 1:=agT g v;rw[f,h]at a;rw[i,j]at b;exact⟨a,b⟩
theorem Ru (h:Gm g c v):gF (bI p g) (RB++R') c v=if 0<=gF (bI p g) R' c v then 2+gF (bI p g) R' c v else -1:=by
 rw[Ku,if_neg (Kt.2 h)];rfl
theorem We (h:¬Gm g c v):gF (bI p g) (RB++R') c v=gF (bI p g) RB c v∧0<=gF (bI p g) RB c v:=by
 have:0<=gF (bI p g) RB c v:=Decidable.not_not.1 λq=>h (Kt.1 q);exact⟨by rw[Ku,if_pos this],this⟩
end
section
variable {L:Int->Int->Int->Int} {deg:Nat} {x y:E} {q:Int}
theorem yY:(E.bi 41 x y).den L deg q≠0↔x.den L deg q≠0∧y.den L deg q≠0:=by
 show Bu (decide (x.den L deg q≠0)&&decide (y.den L deg q≠0))≠0↔_;rw[uG,Bool.and_eq_true,decide_eq_true_eq,decide_eq_true_eq]
theorem Pp:(E.bi 42 x y).den L deg q≠0↔x.den L deg q≠0∨y.den L deg q≠0:=by
 show Bu (decide (x.den L deg q≠0)||decide (y.den L deg q≠0))≠0↔_;rw[uG,Bool.or_eq_true,decide_eq_true_eq,decide_eq_true_eq]
theorem BB:(E.un 19 x).den L deg q≠0↔x.den L deg q=0:=by
 show Bu (decide (x.den L deg q=0))≠0↔_;rw[uG,decide_eq_true_eq]
theorem Pn:(E.bi 35 x y).den L deg q≠0↔x.den L deg q=y.den L deg q:=by
 show Bu (decide (x.den L deg q=y.den L deg q))≠0↔_;rw[uG,decide_eq_true_eq]
theorem Po:(E.bi 36 x y).den L deg q≠0↔x.den L deg q≠y.den L deg q:=by
 show Bu (decide (x.den L deg q≠y.den L deg q))≠0↔_;rw[uG,decide_eq_true_eq]
theorem M_:(E.ag 21 x).den L deg q≠0↔∃i:Nat,i<deg∧x.den L deg (i:Int)≠0:=by
 show Bu (((List.range deg).map λi=>x.den L deg ((i:Nat):Int)).any nz)≠0↔_;rw[uG,List.any_eq_true];constructor
 ·rintro⟨z,c,b⟩;obtain⟨i,a,rfl⟩:=List.mem_map.1 c;exact⟨i,List.mem_range.1 a,by simpa [nz]using b⟩
 ·rintro⟨i,a,b⟩;exact⟨_,List.mem_map.2 ⟨i,List.mem_range.2 a,rfl⟩,by simpa [nz]using b⟩
theorem Yx:(E.ag 20 x).den L deg q≠0↔∀i:Nat,i<deg->x.den L deg (i:Int)≠0:=by
 show Bu (((List.range deg).map λi=>x.den L deg ((i:Nat):Int)).all nz)≠0↔_;rw[uG,List.all_eq_true];constructor
 ·intro h i a;have:=h _ (List.mem_map.2 ⟨i,List.mem_range.2 a,rfl⟩);simpa [nz]using this
 ·intro h z b;obtain⟨i,a,rfl⟩:=List.mem_map.1 b;simpa [nz]using h i (List.mem_range.1 a)
end
def sB (c:List (List Int)) (v:Nat) (x:Int):Int:=at' (at' c (v:Int)) x
def Nv (g:GR) (c:List (List Int)) (v i:Nat) (x:Int):Int:=at' (at' c (fP (row g v) i).1) x
theorem yE {g:GR} {c:List (List Int)} {v i u:Nat} {x:Int} (h:(fP (row g v) i).1=(u:Int)):Nv g c v i x=sB c u x:=by unfold Nv sB;rw[h]
def inP:E:= .bi 35 (.lf 11 0) (.lf 5 1)
def Vx:E:= .bi 41 (.bi 41 (.lf 10 0) (.un 19 (.lf 5 2))) (.lf 5 5)
def YM:E:= .bi 41 (.un 19 (.lf 10 0)) (.ag 21 (.bi 41 inP (.bi 42 (.bi 36 (.lf 12 3) (.lf 5 3)) (.bi 41 (.lf 5 2) (.un 19 (.lf 12 2))))))
def YN:E:= .bi 41 (.lf 5 2) (.ag 20 (.bi 42 (.bi 36 (.lf 12 1) (.lf 17 0)) (.bi 41 (.un 19 (.lf 12 2)) (.bi 35 (.lf 12 3) (.lf 5 3)))))
def VB:E:= .bi 41 (.bi 41 (.un 19 (.lf 5 2)) (.un 19 (.lf 5 5))) (.ag 21 (.bi 41 (.bi 41 (.bi 35 (.lf 12 1) (.lf 17 0)) (.lf 12 5)) (.un 19 (.lf 12 2))))
def RS:List RL:=[(guT,[(0,.lf 1 0),(1,.lf 4 0)]),(guB,[(0,exX),(1,exY)]),(Vx,[(2,.lf 2 0),(3,.un 19 (.lf 5 3)),(4,.lf 1 0),(5,.lf 3 0)]),
 (YM,[(2,.ag 21 (.bi 41 inP (.lf 12 2))),(3,.ag 21 (.bi 41 inP (.lf 12 3))),(4,.lf 1 0),(5,.lf 3 0)]),(YN,[(2,.lf 3 0)]),(VB,[(5,.lf 2 0)])]
theorem Zm:vX 6 RS=true:=by decide +kernel
section
variable {p:sI} {g:GR} {c:List (List Int)} {v:Nat}
theorem abS {a:Nat} {q:Int}:(E.lf 10 0).den (VS (bI p g,c,(v:Int),[])) a q≠0↔v=0:=by
 show Bu (decide ((v:Int)=0))≠0↔_;rw[uG,decide_eq_true_eq];omega
theorem aei {a:Nat} {q:Int}:(E.lf 10 0).den (VS (bI p g,c,(v:Int),[])) a q=0↔v≠0:=by
 show Bu (decide ((v:Int)=0))=0↔_;rw[adt,decide_eq_false_iff_not];omega
theorem Lc (d:v<g.2.length) {a i:Nat} (b:i<(row g v).length):(E.lf 17 0).den (VS (bI p g,c,(v:Int),[])) a (i:Int)=zM g v i:=by
 show at' (at' (eH g) (v:Int)) (i:Int)=_;unfold eH;rw[nD _ d,nD _ b]
theorem Vy:jF (bI p g) c v Vx≠0↔(v=0∧sB c v 2=0)∧sB c v 5≠0:=by
 unfold jF Vx;rw[yY,yY,BB,abS];exact Iff.rfl
theorem Vz:jF (bI p g) c v YM≠0↔v≠0∧∃i:Nat,i<(row g v).length∧(i:Int)=sB c v 1∧(Nv g c v i 3≠sB c v 3∨(sB c v 2≠0∧Nv g c v i 2=0)):=by
 unfold jF YM inP;rw[yY,BB,aei,M_];simp only[yY,Pp,BB,Pn,Po];exact Iff.rfl
theorem VA (b:v<g.2.length):jF (bI p g) c v YN≠0↔sB c v 2≠0∧∀i:Nat,i<(row g v).length->Nv g c v i 1≠zM g v i∨(Nv g c v i 2=0∧Nv g c v i 3=sB c v 3):=by
 unfold jF YN;rw[yY,Yx];simp only[yY,Pp,BB,Pn,Po];refine and_congr Iff.rfl ⟨λh i a=> ?_,λh i a=> ?_⟩
 ·have:=h i a;rw[Lc b a]at this;exact this
 ·rw[Lc b a];exact h i a
theorem VC (b:v<g.2.length):jF (bI p g) c v VB≠0↔(sB c v 2=0∧sB c v 5=0)∧∃i:Nat,i<(row g v).length∧(Nv g c v i 1=zM g v i∧Nv g c v i 5≠0)∧Nv g c v i 2=0:=by
 unfold jF VB;rw[yY,yY,BB,BB,M_];simp only[yY,Pp,BB,Pn,Po];refine and_congr Iff.rfl ⟨fun⟨i,a,h⟩=>⟨i,a,?_⟩,fun⟨i,a,h⟩=>⟨i,a,?_⟩⟩
 ·rw[Lc b a]at h;exact h
 ·rw[Lc b a];exact h
end
end Go.Proofs.YtmdlcmbplnhdnaaGreatDoor
namespace Go.Proofs.YtmdlcmbplnhdnaaGreatDoor
structure RT (n E:Nat) (par dp:Nat->Nat):Prop where
 n1:0<n
 d0:dp 0=0
 up:∀v,v<n->v≠0->par v<n∧dp v=dp (par v)+1
 le:∀v,v<n->dp v<=E
def XG (a:Nat->Nat) (s b:Nat->Int) (v:Nat):Prop:=v≠0∧(b (a v)≠b v∨(s v≠0∧s (a v)=0))
def FnE (n:Nat) (a:Nat->Nat) (s b:Nat->Int) (v:Nat):Prop:=s v≠0∧∀w,w<n->w≠0->a w=v->s w=0∧b w=b v
def gd (a:Nat->Nat) (s b:Nat->Int) (v:Nat):Prop:=s (a v)≠0∨(s v=0∧b v=b (a v))
def AG (n:Nat) (a:Nat->Nat) (s b:Nat->Int):Prop:=∀v,v<n->v≠0->gd a s b v
def Qt (n:Nat) (s b:Nat->Int):Prop:=∀v,v<n->s v=0∧b v=b 0
section
variable {n E:Nat} {par dp:Nat->Nat} {m:Nat->Prop} {s b s' b':Nat->Int} (hT:RT n E par dp)
theorem abJ {v:Nat} (c:v≠0) (h:¬gd par s b v):XG par s b v:=by
 refine⟨c,?_⟩
 by_cases a:b (par v)=b v
 ·refine .inr ⟨λq=>h (.inr ⟨q,a.symm⟩),Decidable.not_not.1 λq=>h (.inl q)⟩
 ·exact .inl a
 include hT
theorem aeh (h:AG n par s b) (h0:s 0=0):Qt n s b:=by
 have key:∀k v,v<n->dp v=k->s v=0∧b v=b 0:=by
  intro k
  induction k with
  |zero=>
   intro v hv hd;by_cases e:v=0
   ·subst e;exact⟨h0,rfl⟩
   ·have:=(hT.up v hv e).2;omega
  |succ k ih=>
   intro v hv hd;have e:v≠0:=λe=>by subst e;have:=hT.d0;omega
   obtain⟨hu,hd'⟩:=hT.up v hv e;obtain⟨a1,a2⟩:=ih _ hu (by omega);rcases h v hv e with q|⟨q1,q2⟩
   ·exact absurd a1 q
   ·exact⟨q1,by rw[q2,a2]⟩
 exact λv hv=>key _ v hv rfl
 omit hT in
end
end Go.Proofs.YtmdlcmbplnhdnaaGreatDoor
namespace Go.Proofs.YtmdlcmbplnhdnaaGreatDoor
open Go Go.Sx
structure TP (g:GR) (d:aP) (par fp:Nat->Nat):Prop where
 at_:∀v,v<g.2.length->v≠0->fp v<(row g v).length∧n_ g d v (fp v:Int)∧(fP (row g v) (fp v)).1=(par v:Int)∧par v<g.2.length∧D d (par v)=D d v - 1
def So (g:GR) (d:aP) (c:bA):Prop:=∀v,v<g.2.length->Lj c v=D d v∧n_ g d v (Rx c v)
def sC (c:bA) (v:Nat):Int:=sB c v 2
def bC (c:bA) (v:Nat):Int:=sB c v 3
section
variable {g:GR} {d:List Int} {c:List (List Int)} (hV:VG g) (hD:rV g 0 d) (h0:∀v,v<g.2.length->0<=D d v)
 include hV
theorem Gq {v i u:Nat} (f:v<g.2.length) (a:i<(row g v).length) (b:(fP (row g v) i).1=(u:Int)):yF (row g v) (u:Int)=(i:Int):=
 GW i a b λk e=>by
  have:=((hV.node v f).links i a).2.2.2 k e;rwa[b]at this
 include hD h0
theorem aes:∃x y:Nat->Nat,TP g d x y:=by
 have n:∀v,∃u f:Nat,v<g.2.length->v≠0->f<(row g v).length∧n_ g d v (f:Int)∧(fP (row g v) f).1=(u:Int)∧u<g.2.length∧D d u=D d v - 1:=λv=>by
  by_cases j:v<g.2.length∧v≠0
  ·obtain⟨j,l⟩:=j;have o:0<D d v:=by
    have:=h0 v j;have A:D d v≠0:=λe=>l ((hD.zero v j).1 e);omega
   obtain⟨G,C,⟨E,t,r⟩,s⟩:=hD.near v j o;obtain⟨m,F,h,w⟩:=Fh (p:=λi=>i<(row g v).length∧at' d (fP (row g v) i).1=D d v - 1) E ⟨t,by rw[r];exact s⟩;obtain⟨u,B,q,_⟩:=hV.port j h.1;refine⟨u,m,λ_ _=>⟨h.1,.inl ⟨m,h.1,rfl,h.2,λk z e=>w k z ⟨by omega,e⟩⟩,q,B,?_⟩⟩
   have:=h.2;rw[q]at this;exact this
  ·exact⟨0,0,λa b=>absurd ⟨a,b⟩ j⟩
 refine⟨λv=>(n v).choose,λv=>(n v).choose_spec.choose,⟨λv j l=>(n v).choose_spec.choose_spec j l⟩⟩
 omit hV hD h0 in
theorem Tv {k:Nat} (h:TrK g d k c) (b:∀v,v<g.2.length->D d v<(k:Int)):So g d c:=λv a=>h.near v a (b v a)
theorem Zt (h:So g d c) {v:Nat} (e:v<g.2.length):Gm g c v:=by
 obtain⟨a,b⟩:=aeo hV hD h0 (λu f=>(h u f).1) e;exact⟨by rw[a];exact(h v e).1,(h v e).2.uniq b⟩
 omit h0 in
theorem Tj (h0:∀v,v<g.2.length->0<=D d v) (hc:∀v,v<g.2.length->0<=Lj c v) (ho:∀v,v<g.2.length->Gm g c v):So g d c:=by
  have h24:=hV.n24;have key:∀k:Nat,TrK g d k c:=by
   intro k
   induction k with
   |zero=>exact Tw h0 hc
   |succ k ih=>exact WH ih λv hT=>Zu hV hD h0 ih hT (ho v hT.1)
  exact Tv (key (g.2.length+1)) λv hv=>by have:=hD.hi v hv;omega
 omit h0 in
theorem Wp (h0:∀v,v<g.2.length->0<=D d v) (h:So g d c):Rx c 0 = -1:=by
  have k:=hV.n1;rcases(h 0 (by omega)).2 with⟨i,e,_,a,_⟩|⟨a,_⟩
  ·obtain⟨u,f,b,_⟩:=hV.port (v:=0) (by omega) e;rw[b]at a;have j:D d u=D d 0 - 1:=a;have:=(hD.zero 0 (by omega)).2 Z;have:=h0 u f;omega
  ·exact a
variable {par fp:Nat->Nat} (hP:TP g d par fp)
 include hP
theorem aek {E:Nat} (h:∀v,v<g.2.length->D d v<=(E:Int)):RT g.2.length E par (λv=>(D d v).toNat):=by
 have i:=hV.n1;refine⟨by omega,?_,λv e f=> ?_,λv e=> ?_⟩
 ·rw[(hD.zero 0 (by omega)).2 Z];rfl
 ·obtain⟨_,_,_,a,b⟩:=hP.at_ v e f;have:=h0 _ a;exact⟨a,by rw[b];omega⟩
 ·have:=h v e;omega
 omit hV hD h0 in
theorem LK (h:So g d c) {v:Nat} (b:v<g.2.length) (a:v≠0):Rx c v=(fp v:Int):=(h v b).2.uniq (hP.at_ v b a).2.1
theorem HC (h:So g d c) {v i u:Nat} (r:v<g.2.length) (t:i<(row g v).length) (n:(fP (row g v) i).1=(u:Int)):Nv g c v i 1=zM g v i↔u≠0∧par u=v:=by
 obtain⟨w,j,p,l⟩:=hV.port r t;obtain rfl:u=w:=by omega
 obtain⟨k,o,m⟩:=hV.back r l;have s:zM g v i=(k:Int):=by
  unfold zM;rw[n,Int.toNat_natCast];exact Gq hV j o m
 rw[yE n,s,show sB c u 1=Rx c u from rfl];constructor
 ·intro e;have f:u≠0:=λq=>by
   subst q;rw[Wp hV hD h0 h]at e;omega
  rw[LK hP h j f]at e;have:fp u=k:=by omega
  subst this;have:=(hP.at_ u j f).2.2.1;exact⟨f,by omega⟩
 ·rintro⟨f,e⟩;rw[LK hP h j f];obtain⟨a,_,b,_⟩:=hP.at_ u j f;rw[e]at b;have x:=Gq hV j a b;have y:=Gq hV j o m;omega
 omit hV hD h0 in
theorem WG (h:So g d c) {v:Nat} (f:v<g.2.length):(v≠0∧∃i:Nat,i<(row g v).length∧(i:Int)=sB c v 1∧(Nv g c v i 3≠sB c v 3∨(sB c v 2≠0∧Nv g c v i 2=0)))↔XG par (sC c) (bC c) v:=by
  constructor
  ·rintro⟨e,i,k,l,j⟩;have:sB c v 1=(fp v:Int):=LK hP h f e;obtain rfl:i=fp v:=by omega
   have b:=(hP.at_ v f e).2.2.1;rw[yE b,yE b]at j;exact⟨e,j⟩
  ·rintro⟨e,j⟩;obtain⟨a,_,b,_⟩:=hP.at_ v f e;refine⟨e,fp v,a,(LK hP h f e).symm,?_⟩
   rw[yE b,yE b];exact j
theorem YG (h:So g d c) {v:Nat} (o:v<g.2.length):(sB c v 2≠0∧∀i:Nat,i<(row g v).length->Nv g c v i 1≠zM g v i∨(Nv g c v i 2=0∧Nv g c v i 3=sB c v 3))↔FnE g.2.length par (sC c) (bC c) v:=by
 constructor
 ·rintro⟨n,p⟩;refine⟨n,λw r m e=> ?_⟩
  obtain⟨a,_,f,_⟩:=hP.at_ w r m;rw[e]at f;obtain⟨i,l,j⟩:=hV.back r ⟨fp w,a,f⟩;have s:=(HC hV hD h0 hP h o l j).2 ⟨m,e⟩;have:=(p i l).resolve_left λq=>q s;rw[yE j,yE j]at this;exact this
 ·rintro⟨n,p⟩;refine⟨n,λi l=> ?_⟩
  obtain⟨u,t,k,_⟩:=hV.port o l;by_cases q:Nv g c v i 1=zM g v i
  ·obtain⟨a,b⟩:=(HC hV hD h0 hP h o l k).1 q;refine .inr ?_;rw[yE k,yE k];exact p u t a b
  ·exact .inl q
 omit hV hD h0 in
end
def ace:List Cp:=[(ByteArray.mk #[115],2,0,0,0,0),(ByteArray.mk #[98],2,0,0,0,0),(ByteArray.mk #[121],1,0,3,0,0),(ByteArray.mk #[114],2,0,0,0,0)]
def uC:List Cp:=JJ++ace
def RW:List RL:=[(Vx,[(2,.lf 2 0),(3,.un 19 (.lf 5 3)),(4,.lf 1 0),(5,.lf 3 0)]),
 (YM,[(2,.ag 21 (.bi 41 inP (.lf 12 2))),(3,.ag 21 (.bi 41 inP (.lf 12 3))),(4,.lf 1 0),(5,.lf 3 0)]),(YN,[(2,.lf 3 0)]),(VB,[(5,.lf 2 0)])]
theorem Uf:RS=RB++RW:=rfl
section
variable {p:sI} {g:GR} {c:List (List Int)} {v t:Nat}
theorem ahb (a:Jw g c uC) (b:v<g.2.length):(sB c v 2=0∨sB c v 2=1)∧(sB c v 3=0∨sB c v 3=1)∧(0<=sB c v 4∧sB c v 4<=3)∧(sB c v 5=0∨sB c v 5=1):=by
 have f:=a.ok v b 2 (by decide);have h:=a.ok v b 3 (by decide);have i:=a.ok v b 4 (by decide);have j:=a.ok v b 5 (by decide);have k:0<=sB c v 2∧sB c v 2<=1:=f;have l:0<=sB c v 3∧sB c v 3<=1:=h;have d:0<=sB c v 4∧sB c v 4<=hi g (at' uC ((4:Nat):Int)) v:=i;have e:hi g (at' uC ((4:Nat):Int)) v=3:=by
  show(3:Int)+0*(g.2.length:Int)+0*gW g g.1.length=3;omega
 rw[e]at d;have m:0<=sB c v 5∧sB c v 5<=1:=j;omega
variable {d:List Int} (hV:VG g) (hD:rV g 0 d) (h0:∀v,v<g.2.length->0<=D d v) {par fp:Nat->Nat} (hP:TP g d par fp)
 include hV hD h0 hP
theorem enS (G:So g d c) (o:v<g.2.length):(0<=gF (bI p g) RW c v↔(v=0∧sB c v 2=0∧sB c v 5≠0)∨XG par (sC c) (bC c) v∨FnE g.2.length par (sC c) (bC c) v∨(sB c v 2=0∧sB c v 5=0∧∃w,w<g.2.length∧w≠0∧par w=v∧sB c w 5≠0∧sB c w 2=0))∧
  ((v=0∧sB c v 2=0∧sB c v 5≠0)->gF (bI p g) RW c v=0)∧(XG par (sC c) (bC c) v->gF (bI p g) RW c v=1)∧(¬XG par (sC c) (bC c) v->FnE g.2.length par (sC c) (bC c) v->gF (bI p g) RW c v=2)∧
  (¬(v=0∧sB c v 2=0∧sB c v 5≠0)->¬XG par (sC c) (bC c) v->¬FnE g.2.length par (sC c) (bC c) v->0<=gF (bI p g) RW c v->gF (bI p g) RW c v=3):=by
 have C:=Vy (p:=p) (g:=g) (c:=c) (v:=v);have F:=(Vz (p:=p) (g:=g) (c:=c) (v:=v)).trans (WG hP G o);have H:=(VA (p:=p) (g:=g) (c:=c) o).trans (YG hV hD h0 hP G o);have M:jF (bI p g) c v VB≠0↔(sB c v 2=0∧sB c v 5=0∧∃w,w<g.2.length∧w≠0∧par w=v∧sB c w 5≠0∧sB c w 2=0):=by
  rw[VC o];constructor
  ·rintro⟨⟨x,f⟩,i,k,⟨b,y⟩,l⟩;obtain⟨u,Q,z,_⟩:=hV.port o k;obtain⟨r,s⟩:=(HC hV hD h0 hP G o k z).1 b;rw[yE z]at y l;exact⟨x,f,u,Q,r,s,y,l⟩
  ·rintro⟨x,f,w,N,A,e,y,l⟩;obtain⟨a,_,m,_⟩:=hP.at_ w N A;rw[e]at m;obtain⟨i,k,n⟩:=hV.back N ⟨fp w,a,m⟩;exact⟨⟨x,f⟩,i,k,⟨(HC hV hD h0 hP G o k n).2 ⟨A,e⟩,by rw[yE n];exact y⟩,by rw[yE n];exact l⟩
 have P:∀{e:E},¬jF (bI p g) c v e≠0->jF (bI p g) c v e=0:=λh=>Decidable.not_not.1 h;have J:(v=0∧sB c v 2=0∧sB c v 5≠0)->gF (bI p g) RW c v=0:=λh=>C_ (i:=0) (by decide) (C.2 ⟨⟨h.1,h.2.1⟩,h.2.2⟩) λj I=>by omega
 have O:¬(v=0∧sB c v 2=0∧sB c v 5≠0)->jF (bI p g) c v Vx=0:=λh=>P λq=>h (by obtain⟨⟨r,s⟩,B⟩:=C.1 q;exact⟨r,s,B⟩);have K:XG par (sC c) (bC c) v->gF (bI p g) RW c v=1:=λh=>C_ (i:=1) (by decide) (F.2 h) λj I=>by
  obtain rfl:j=0:=by omega
  exact O λq=>h.1 q.1
 have L:¬XG par (sC c) (bC c) v->FnE g.2.length par (sC c) (bC c) v->gF (bI p g) RW c v=2:=λb h=>C_ (i:=2) (by decide) (H.2 h) λj I=>by
  match j,I with
  |0,_=>exact O λq=>h.1 q.2.1
  |1,_=>exact P λq=>b (F.1 q)
 refine⟨⟨λh=> ?_,λh=> ?_⟩,J,K,L,λf b y h=> ?_⟩
 ·obtain⟨i,x,f,b⟩:=(Bh (bI p g) RW c v).resolve_left (λe=>by omega);have f:i<4:=f
  match i,f with
  |0,_=>obtain⟨⟨r,s⟩,B⟩:=C.1 b;exact .inl ⟨r,s,B⟩
  |1,_=>exact .inr (.inl (F.1 b))
  |2,_=>exact .inr (.inr (.inl (H.1 b)))
  |3,_=>exact .inr (.inr (.inr (M.1 b)))
 ·by_cases b:XG par (sC c) (bC c) v
  ·rw[K b];decide
  ·rcases h with h|h|h|h
   ·rw[J h];decide
   ·exact absurd h b
   ·rw[L b h];decide
   ·refine Decidable.not_not.1 λq=> ?_;rcases Bh (bI p g) RW c v with e|⟨i,e,_⟩
    ·exact M.2 h (Ey.1 e 3 (by decide))
    ·omega
 ·obtain⟨i,x,k,l⟩:=(Bh (bI p g) RW c v).resolve_left (λe=>by omega);have k:i<4:=k
  match i,k with
  |0,_=>obtain⟨⟨r,s⟩,B⟩:=C.1 l;exact absurd ⟨r,s,B⟩ f
  |1,_=>exact absurd (F.1 l) b
  |2,_=>exact absurd (H.1 l) y
  |3,_=>exact x
end
def rC (c:bA) (v:Nat):Int:=sB c v 5
section
variable {n E:Nat} {par dp:Nat->Nat} {c c':List (List Int)} {t:Nat}
variable (hT:RT n E par dp)
 include hT
end
end Go.Proofs.YtmdlcmbplnhdnaaGreatDoor
namespace Go.Proofs.YtmdlcmbplnhdnaaGreatDoor
open Go.Sx
def pJ  (a:Bool):Option (Bool):=
 some (a)
def vM (U:Nat) (a:Int):Option (Bool):=
 if(1:Int)<=a then(pJ  (decide (a<=(4:Int))))else(pJ  (false))
theorem aaN:aR Tryz.prog 78:=Tryz.call78
theorem Jd (U:Nat) {b:Int} (r:Bool) (h:vM U b=some r):
  aV Tryz.prog 78 #[vI (b)] [] (λx:Unit=>vB (r)) (λx l=>l) (λ_ l=>l):=by
 refine aV.of Tryz.func78 Z Tryz.ntmps78 Z λc=>?_;refine aT<|aD Z<|aM<|aJ<|fU (λa=>pJ  a=some r) (λa d=>[(2,vB (a))]) (λa d=>[]) ?_ ?_
 ·refine aQ<|aA Z<|aC (EV Z Z) Z<|aA Z ?_;refine Es h Z (λ_ h=>?_) λ_ h=>?_
  ·refine e_ Z<|aX Z (Cc Z Z) Z<|fF Z<|aD Z<|aM ?_;exact jL (decide (b<=(4:Int))) () h SF Z
  refine aN Z<|aN Z<|iP Z<|aD Z<|aM ?_;exact jL (false) () h SF Z
 intro a d h;unfold pJ at h;refine aS ?_;cases h;exact kW Z
def xU (U:Nat) (a:wC) (b:cE) (d:Int) (e:bA) (f:Int):Option (Int):=
 Option.bind (lZ U ((a.1,a.2.1,a.2.2)) ((b.1,b.2)) e) λc=>(if c≠(0:Int)then(some (c))else(Option.bind (vM U d) λg=>(if(!g)=true then(some (12:Int))else(if(4096:Int)<f then(some (3:Int))else(some (0:Int))))))
theorem aaE:aR Tryz.prog 50:=Tryz.call50
theorem NY (U:Nat) {a:wC} {g:cE} {j:Int} {k:bA} {m:Int} (b:Value)  (d:Value)  (e:Value)  (f:Value)  (n:lA)  (i:Value)  (o:qE) (r:Int) (h:xU U a g j k m=some r):
  aV Tryz.prog 50 #[Value.agg #[vS (a.1),b,d],Value.agg #[e,f],vI (j),i,vI (m)] [Sl aK b a.2.1,Sl aH d a.2.2,PF (Value.agg #[vS a.1,b,d]),Sl bM e g.1,S2 a_ f n g.2,S2 bM i o k] (λx:Unit=>vI (r)) (λx l=>l) (λ_ l=>l):=by
 refine aV.of Tryz.func50 Z Tryz.ntmps50 Z λc=>?_;refine aT<|aG (aL.box (cs:=[vS (a.1),b,d]) Z Z) Z λu=>aG (aL.box (cs:=[e,f]) Z Z) Z λv=>aD Z<|aM<|aJ<|aT<|dW 1 Z<|dW 0 Z<|aA Z<|eZ h λp s h=>aG (aL.callQ UG (Di U b d e f n i o p s) Z (nK [0,1,2,3,4,5] Z)) Z λw=>aD Z<|aM<|aT<|aA Z<|qD Z<|aM ?_;refine fE h Z (λh=>?_) λh=>?_
 ·refine aT<|aA Z<|aD Z<|aM<|aS<|aI ?_;cases h;exact uU Z
 refine cU<|aJ<|aT<|aA Z<|eZ h λq t h=>aG (aL.callQ aaN (Jd U  q t) Z .nil) Z λy=>aC (sK Z) Z<|aM ?_;refine A_ h Z (λ_ h=>?_) λ_ h=>?_
 ·refine aT<|aD Z<|aM<|aS<|aI ?_;cases h;exact uU Z
 refine cU<|aJ<|aT<|aA Z<|aC (xP Z Z) Z<|aM ?_;refine fE h Z (λh=>?_) λh=>?_
 ·refine aT<|aD Z<|aM<|aS<|aI ?_;cases h;exact uU Z
 refine cU<|aT<|aD Z<|aM<|aS ?_;cases h;exact uU Z
def tD (U:Nat) (a:Int):Option ((Int×Int×Int×Int×Int)):=
 some (((0:Int),(0:Int),(0:Int),(0:Int),(dV .u32 a (16777215:Int))))
theorem XS:aR Tryz.prog 111:=Tryz.call111
theorem Hg (U:Nat) {a:Int} (r:(Int×Int×Int×Int×Int)) (h:tD U a=some r):
  aV Tryz.prog 111 #[vU (a)] [] (λx:Unit=>Value.agg #[vI (r.1),vI (r.2.1),vI (r.2.2.1),vI (r.2.2.2.1),vU (r.2.2.2.2)]) (λx l=>l) (λ_ l=>l):=by
 refine aV.of Tryz.func111 Z Tryz.ntmps111 Z λc=>?_;unfold tD at h;refine aT<|aG (aL.alloc (cs:=ZZ) Z Z) Z λb=>aM<|aT<|aA Z<|yM Z ?_;refine aC (Um (r:=Value.agg #[vI (0:Int),vI (0:Int),vI (0:Int),vI (0:Int),vU (dV .u32 a (16777215:Int))]) Z (by intro w;simp[Instr.build,Instr.fill,dH,cW,cH,dJ,dK,cX,eI])) Z ?_;refine bN 0 (vs:=[vI (0:Int),vI (0:Int),vI (0:Int),vI (0:Int),vU (dV .u32 a (16777215:Int))]) Z Z Z Z Z Z<|aM<|aS ?_;cases h;exact gJ () Z Z (RV.cell 0 Z Z Z Z) .nil aF.nil
end Go.Proofs.YtmdlcmbplnhdnaaGreatDoor
namespace Go.Proofs.YtmdlcmbplnhdnaaGreatDoor
open Go Go.Sx
def gV (g:GR):Nat:=2^g.2.length - 1
theorem XN {g:GR} (b:VG g):gV g<4294967296:=by
 have a:=b.n24;have:(2:Nat)^g.2.length<=2^24:=Nat.pow_le_pow_right (by omega) a;unfold gV;omega
section
variable {p:sI} {g:GR} {R:List RL}
end
theorem Zp (p b:sI) (g:GR) (a:List Cp) (R:List RL) (c:bA) (t:Nat):o_ (bI p g) a R c t=o_ (bI b g) a R c t:=rfl
theorem Nb (p b:sI) (g:GR) (R:List RL) (a:Nat) (c:bA):uI (bI p g) R a c=uI (bI b g) R a c:=rfl
noncomputable def nxt (g:GR) (a:Int) (c:Nat) (w:Int):Nat:=(((mS 1000 g).bind λb=>eD 1000 b a (c:Int) w).getD 0).toNat
noncomputable def BP (p:sI) (vars:List Cp) (R:List RL) (g:GR) (kind:Int) (ws:aP) (a:bA):Nat->bA
 |0=>a
 |k+1=>o_ (bI p g) vars R (BP p vars R g kind ws a k) (nxt g kind (uI (bI p g) R (gV g) (BP p vars R g kind ws a k)) (at' ws (k:Int)))
theorem I_ (p p':sI) (vars:List Cp) (R:List RL) (g:GR) (kind:Int) (ws:aP) (a:bA) (k:Nat):BP p vars R g kind ws a k=BP p' vars R g kind ws a k:=by
 induction k with
 |zero=>rfl
 |succ k b=>
  rw[BP,BP,b,Zp p p',Nb p p']
theorem exZ (D:Jp):∃z:List sJ,z.map wS=D:=by
 refine⟨D.map λd=>(ByteArray.mk #[],(.bool true,d.1),(.bool true,d.2.map λs=>(s.1,(.bool true,s.2)))),?_⟩
 rw[List.map_map]
 conv=>rhs;rw[<-List.map_id D]
 refine List.map_congr_left λd _=> ?_;show(d.1,(d.2.map λs=>(s.1,((.bool true:Value),s.2))).map λs=>(s.1,s.2.2))=d;rw[List.map_map];exact Prod.ext Z (by
  conv=>rhs;rw[<-List.map_id d.2]
  rfl)
end Go.Proofs.YtmdlcmbplnhdnaaGreatDoor