/- Models and proofs. Conditions: none. -/
import Derived.Test.YtahgemjmgopleaaGreatDoorZCFo2
import Derived.Test.YtahgemjmgopleaaGreatDoorZCFo7
import Derived.Test.YtahgemjmgopleaaGreatDoorZCFo6
import Derived.Test.YtahgemjmgopleaaGreatDoorZCFo5
set_option linter.unusedVariables false
set_option linter.unusedSimpArgs false
set_option maxHeartbeats 4000000
set_option maxRecDepth 20000
namespace Go.Proofs.YtahgemjmgopleaaGreatDoor
open Go.Sx
def xW (d:Int) (a:eV) (b:Int) (c:Bool):Option (Int):=
 if c=true then(some (b))else(if d=(3:Int)then(some (-1:Int))else(if b<a.1 then(some (a.1))else(some (a.2))))
def Ai (U:Nat) (c:Int) (a:eV) (b:Int):Option (Int):=
 if a.1<=b then(xW c a b (decide (b<=a.2)))else(xW c a b (false))
theorem acg:aU Tryz.prog 210:=Tryz.call210
theorem Nv (U:Nat) {e:Int} {a:eV} {d:Int} (r:Int) (h:Ai U e a d=some r):
  aW Tryz.prog 210 #[vI (e),Value.agg #[vI (a.1),vI (a.2)],vI (d)] [] (λx:Unit=>vI (r)) (λx l=>l) (λ_ l=>l):=by
 refine aW.of Tryz.func210 Z Tryz.ntmps210 Z λc=>?_;refine aT<|aG (aM.box (cs:=[vI (a.1),vI (a.2)]) Z Z) Z λf=>aB Z<|aL<|aK<|aS<|aK<|dQ (λb=>xW e a d b=some r) (λb g=>[(0,vI (e)),(2,vI (d)),(4,vP f),(7,vB (b))]) (λb g=>[bS f [vI (a.1),vI (a.2)] 211]) ?_ ?_
 ·refine aO<|aA Z ?_;refine aC (qC (i:=0) Z Z Z Z Z (by decide)) Z ?_;refine cT 0 Z<|aC (zJ Z Z) Z<|aA Z ?_;refine AP h Z (λ_ h=>?_) λ_ h=>?_
  ·refine cJ Z ?_;refine aQ Z (qC (i:=1) Z Z Z Z Z (by decide)) Z ?_;refine aQ Z (dO 0 Z Z Z Z Z) Z<|aQ Z (uE Z Z) Z<|dC Z<|aB Z<|aL ?_;exact fE (decide (d<=a.2)) () h SF Z
  refine aH Z<|aH Z<|aH Z<|aH Z<|dR Z<|aB Z<|aL ?_;exact fE (false) () h SF Z
 intro b g h;refine tP h Z (λ_ h=>?_) λ_ h=>?_
 ·refine aT<|aA Z<|aB Z<|aL<|aR<|bE<|aI ?_;cases h;exact mR Z
 refine aT<|aA Z<|bU Z<|aB Z<|aL ?_;refine dY h Z (λh=>?_) λh=>?_
 ·refine aT<|aB Z<|aL<|aR<|bE<|aI ?_;cases h;exact mR Z
 refine aT<|aA Z ?_;refine aC (qC (i:=0) Z Z Z Z Z (by decide)) Z ?_;refine cT 0 Z<|cN Z<|aB Z<|aL ?_;refine dY h Z (λh=>?_) λh=>?_
 ·refine aT ?_;refine aC (qC (i:=0) Z Z Z Z Z (by decide)) Z ?_;refine cT 0 Z<|aB Z<|aL<|aR<|bE<|aI ?_;cases h;exact mR Z
 refine cU<|jE<|aT ?_;refine aC (qC (i:=1) Z Z Z Z Z (by decide)) Z ?_;refine cT 0 Z<|aB Z<|aL<|aR ?_;cases h;exact mR Z
def oQ  (a:aY):Option aY:=
 some (a)
def lG (U:Nat) (b:KI) (h:bO) (d:Int) (c:Int) (a:rU) (e:xS->Option aY):Option aY:=
 if a.1<(((at' b.1.2.2 c).2.2.2).length:Int)then(ck (0<=a.1∧a.1<(((at' b.1.2.2 c).2.2.2).length:Int)) (Option.bind (iG U ((((b.2.1.1.1,b.2.1.1.2.1,b.2.1.1.2.2)),((b.2.1.2.1.1,b.2.1.2.1.2)),b.2.1.2.2.1,b.2.1.2.2.2)) h d ((at' ((at' b.1.2.2 c).2.2.2) a.1).2.2)) λf=>(ck (0<=((at' ((at' b.1.2.2 c).2.2.2) a.1).1)∧((at' ((at' b.1.2.2 c).2.2.2) a.1).1)<(b.1.2.1.length:Int)) (ck (0<=d∧d<(b.2.2.length:Int)) (ck (0<=((at' ((at' b.1.2.2 c).2.2.2) a.1).1)∧((at' ((at' b.1.2.2 c).2.2.2) a.1).1)<((at' b.2.2 d).length:Int)) (Option.bind (Ai U ((at' b.1.2.1 ((at' ((at' b.1.2.2 c).2.2.2) a.1).1)).2.1) ((((at' (at' b.2.2 d) ((at' ((at' b.1.2.2 c).2.2.2) a.1).1)).1),((at' (at' b.2.2 d) ((at' ((at' b.1.2.2 c).2.2.2) a.1).1)).2))) f) λg=>(ck (0<=((at' ((at' b.1.2.2 c).2.2.2) a.1).1)∧((at' ((at' b.1.2.2 c).2.2.2) a.1).1)<(a.2.length:Int)) (e ((wI .i64 (a.1+(1:Int))),(List.set a.2 (Int.toNat ((at' ((at' b.1.2.2 c).2.2.2) a.1).1)) g))))))))))else(oQ  (a.2))
def l_ (U:Nat) (d:KI) (b:bO) (a:Int) (c:Int):Option aY:=
 ck (0<=a∧a<(b.length:Int)) (ck ((List.length ([]:aY):Int)+((at' b a).length:Int)<=1099511627) (ck (0<=c∧c<(d.1.2.2.length:Int)) (bL (lG U d b a c) U ((0:Int),(([]:aY)++(at' b a))))))
theorem abU:aU Tryz.prog 174:=Tryz.call174
theorem GL (U:Nat) {b:KI} {C:bO} {m:Int} {f:Int} (j:Nat)  (O:Value)  (P:Value)  (k:Nat)  (E:Value)  (F:Value)  (G:Value)  (H:Value)  (Q:jA)  (I:Value)  (y:lO)  (w:Value)  (M:jA)  (i:Value)  (A:lO) (r:aY) (h:l_ U b C m f=some r):
  aW Tryz.prog 174 #[vP j,i,vI (m),vI (f)] [bS j [vS (b.1.1),O,P,vP k,w] 183,Sl aN O b.1.2.1,Sl aJ P b.1.2.2,bS k [vS (b.2.1.1.1),E,F,G,H,vI (b.2.1.2.2.1),I] 224,Sl aN E b.2.1.1.2.1,Sl aJ F b.2.1.1.2.2,Sl bR G b.2.1.2.1.1,S2 bD H Q b.2.1.2.1.2,S2 bR I y b.2.1.2.2.2,S2 bD w M b.2.2,S2 bR i A C] (λx:Value=>x) (λx l=>Ar cK x r::l) (λ_ l=>l):=by
 refine aW.of Tryz.func174 Z Tryz.ntmps174 Z λc=>?_;refine aT<|aB Z<|aL<|aT<|aA Z<|aA Z<|dB h λB h=>aC (b_ Z Z (aD.fact 10 Z) Z Z B) Z<|aC (bX Z (aD.fact 10 Z) Z Z B) Z<|eX (dG cK)<|dB h λS h=>aG (eG 0 dW Z Z Z (zBj (aD.fact 10 Z) B.1 B.2) Z Z Z Z S Z) Z λv=>aB Z<|aL<|aK<|dQ (λo=>oQ  o=some r) (λo N=>[(9,v)]) (λo N=>[Ar cK v o]) ?_ ?_
 ·refine aT<|aA Z<|aC (cA Z) Z<|bN Z<|bN Z<|aC (fJ Z (aD.fact 0 Z) Z Z Z) Z<|aA Z<|dB h λg h=>aC (aZ Z Z (aD.fact 2 Z) Z Z g) Z<|aC (dX Z Z Z Z Z) Z<|aC (fD Z (aD.fact 2 Z) Z Z Z tJ g) Z<|aC (fV Z (jN (aD.fact 2 Z) cH g.1 g.2) Z) Z<|aA Z<|aL<|aS<|dZ (lG U b C m f) (λa p=>[(0,vP j),(1,i),(2,vI (m)),(9,v),(26,(at' b.1.2.2 f).2.2.1),(27,vI (((at' b.1.2.2 f).2.2.2).length:Int)),(28,vI (a.1))]) (λa p=>[Ar cK v a.2]) ((0:Int),(([]:aY)++(at' C m))) () h SF (a_.refl _) ?_;intro T a p h;refine aT<|cN Z<|aL<|aK ?_;refine dY h Z (λh=>?_) λh=>?_
  ·refine cD<|aK<|aS<|aT<|dB h λd h=>aC (aZ Z Z (jN (aD.fact 2 Z) cH g.1 g.2) Z Z d) Z<|aC (TX (cs:=[vI ((at' ((at' b.1.2.2 f).2.2.2) a.1).1),(at' ((at' b.1.2.2 f).2.2.2) a.1).2.1]) Z (jN (aD.fact 2 Z) cH g.1 g.2) NS Z Z Z Z d) Z<|aG (aM.alloc (cs:=[vI (0:Int),iO]) Z Z) Z λR=>bQ (Know.one ((jN (jN (aD.fact 2 Z) cH g.1 g.2) Cg d.1 d.2))) λq=>bH 0 (vs:=[vI ((at' ((at' b.1.2.2 f).2.2.2) a.1).1),(at' ((at' b.1.2.2 f).2.2.2) a.1).2.1]) Z Z (c_ Z (c_ q Z)) Z Z Z<|aL<|aK ?_;refine JR.start [0,1,3,7,0,0,0,64,255,511] 8 mixedOrders (by decide +kernel) ?_;refine zBl (by exact rfl) ?_;refine aX Z<|fW Z (cA Z)<|cP Z<|bG Z .nil (iI 0 Z) (fJ Z (aD.fact 0 Z) Z Z Z) aP.z<|aX Z<|aX Z<|cP Z<|fG 0 Z<|bK 8 Z Z<|dN h λD J h=>aG (zBi Vt (A_ U k E F G H Q I y i A ((at' ((at' b.1.2.2 f).2.2.2) a.1).2.1) D J) Z (aE.cons (aD.fact 3 Z) (aE.cons (aD.fact 4 Z) (aE.cons (aD.fact 5 Z) (aE.cons (aD.fact 6 Z) (aE.cons (aD.fact 7 Z) (aE.cons (aD.fact 8 Z) (aE.cons (aD.fact 10 Z) (aE.cons (jN (jN (aD.fact 2 Z) cH g.1 g.2) Cg d.1 d.2) .nil))))))))) Z λV=>aB Z<|aL ?_;refine JR.start [0,0,2,0,8,24,56,120,0,256,1016,2040,4088,0,8192,24576,57344,0,253952,516096,0,1048576,4186112,8380416,0,33554424,67108863,134217727] 26 mixedOrders (by decide +kernel) ?_;refine zBl (by exact rfl) ?_;refine aX Z<|cP Z<|fG 0 Z<|aX Z<|fW Z (cA Z)<|cP Z<|cP Z<|bG Z .nil (iI 0 Z) (fJ Z (aD.fact 0 Z) Z Z Z) aP.z<|cP Z<|fG 0 Z<|dB h λs h=>bG Z .nil (iI 1 Z) (aZ Z Z (aD.fact 0 Z) Z Z s) aP.z<|fW Z (dX Z Z Z Z Z)<|bG Z .nil (iI 1 Z) (fD Z (aD.fact 0 Z) Z Z Z lD s) aP.z<|aX Z<|fW Z (cA Z)<|cP Z<|bG Z .nil (iI 0 Z) (fJ Z (aD.fact 0 Z) Z Z Z) aP.z<|aX Z<|dB h λe h=>bG Z .nil (iI 9 Z) (b_ Z Z (aD.fact 0 Z) Z Z e) aP.z<|bG Z .nil (iI 9 Z) (bX Z (aD.fact 0 Z) Z Z e) aP.z<|cP Z<|fG 0 Z<|dB h λt h=>bG Z .nil (iI 9 Z) (aZ Z Z (zBj (aD.fact 0 Z) e.1 e.2) Z Z t) aP.z<|bG Z .nil (iI 9 Z) (gX (cs:=[vI ((at' (at' b.2.2 m) ((at' ((at' b.1.2.2 f).2.2.2) a.1).1)).1),vI ((at' (at' b.2.2 m) ((at' ((at' b.1.2.2 f).2.2.2) a.1).1)).2)]) Z (zBj (aD.fact 0 Z) e.1 e.2) bV Z Z Z Z t) aP.z<|aX Z<|dN h λn K h=>zBk Z Z Z (zBi acg (Nv U  n K) Z .nil) Z (λL=>(oU [([0],[])] Z)) λL=>bK 26 Z Z<|dB h λu h=>aC (aZ Z Z (bB (aD.res 1 Z) dW) Z Z u) Z<|zS 1 n u Z Z Z Z Z Z Z<|eM<|jE<|aO<|cB Z<|aA Z<|aL ?_;exact kM ((wI .i64 (a.1+(1:Int))),(List.set a.2 (Int.toNat ((at' ((at' b.1.2.2 f).2.2.2) a.1).1)) n)) () h SF (a_.ix [1] Z Z) (aE.refl _ _)
  refine eR ?_;exact fE (a.2) () h SF Z
 intro o N h;unfold oQ at h;refine aT<|aA Z<|aB Z<|aL<|aR ?_;cases h;exact iJ (v) Z Z (RV.tmp Z) (a_.refl _) aE.nil
def oT  (a:bO):Option bO:=
 some (a)
def lI (b:Ce) (a:(Int×bO)->Option bO) (c:bO):Option bO:=
 a ((wI .i64 (b.1+(1:Int))),c)
def jO (U:Nat) (b:KI) (d:bO) (g:Int) (a:Ce) (c:(Int×bO)->Option bO):Option bO:=
 if a.1<(d.length:Int)then(ck (0<=a.1) (if(dD .u32 (pQ .u32 g a.1) (1:Int))=(1:Int)then(Option.bind (fZ U ((((b.1.1,b.1.2.1,b.1.2.2)),((((b.2.1.1.1,b.2.1.1.2.1,b.2.1.1.2.2)),((b.2.1.2.1.1,b.2.1.2.1.2)),b.2.1.2.2.1,b.2.1.2.2.2)),b.2.2)) d a.1) λe=>(Option.bind (l_ U ((((b.1.1,b.1.2.1,b.1.2.2)),((((b.2.1.1.1,b.2.1.1.2.1,b.2.1.1.2.2)),((b.2.1.2.1.1,b.2.1.2.1.2)),b.2.1.2.2.1,b.2.1.2.2.2)),b.2.2)) d a.1 e) λf=>(ck (0<=a.1∧a.1<(a.2.length:Int)) (lI a c (List.set a.2 (Int.toNat a.1) f)))))else(lI a c (a.2))))else(oT  (a.2))
def f_ (U:Nat) (b:KI) (a:bO) (c:Int):Option bO:=
 Option.bind (s_ U a) λd=>(bL (jO U b a c) U ((0:Int),d))
theorem Vm:aU Tryz.prog 134:=Tryz.call134
theorem Cd (U:Nat) {e:KI} {v:bO} {w:Int} (g:Nat)  (D:Value)  (E:Value)  (o:Nat)  (F:Value)  (G:Value)  (H:Value)  (I:Value)  (Q:jA)  (J:Value)  (t:lO)  (p:Value)  (u:jA)  (d:Value)  (q:lO) (r:bO) (h:f_ U e v w=some r):
  aW Tryz.prog 134 #[vP g,d,vU (w)] [bS g [vS (e.1.1),D,E,vP o,p] 183,Sl aN D e.1.2.1,Sl aJ E e.1.2.2,bS o [vS (e.2.1.1.1),F,G,H,I,vI (e.2.1.2.2.1),J] 224,Sl aN F e.2.1.1.2.1,Sl aJ G e.2.1.1.2.2,Sl bR H e.2.1.2.1.1,S2 bD I Q e.2.1.2.1.2,S2 bR J t e.2.1.2.2.2,S2 bD p u e.2.2,S2 bR d q v] (λx:Ik=>x.1) (λx l=>Ar eO.raw x.1 x.2::jM cK x.2 r::l) (λ_ l=>l):=by
 refine aW.of Tryz.func134 Z Tryz.ntmps134 Z λc=>?_;refine aT<|aB Z<|aL<|aT<|aA Z<|dN h λR S h=>aG (zBi PR (Ej U d q R S) Z (jF [10] Z)) Z λs=>aB Z<|aL<|aK<|Bn (B:=fP) (λy=>oT  y=some r) (λy z=>[(7,s.1)]) (λy z=>[Ar eO.raw s.1 z,jM cK z y]) ?_ ?_
 ·refine aT<|aA Z<|aC (gE Z (aD.fact 10 Z) Z) Z<|aA Z<|aL<|aS<|dZ (B:=fP) (jO U e v w) (λa b=>[(0,vP g),(1,d),(2,vU (w)),(7,s.1),(12,vI (v.length:Int)),(13,vI (a.1))]) (λa b=>[Ar eO.raw s.1 b,jM cK b a.2]) ((0:Int),R) (s.2) h SF (a_.refl _) ?_;intro L a b h;refine aT<|cN Z<|aL<|aK ?_;refine dY h Z (λh=>?_) λh=>?_
  ·refine cD<|aK<|Bn (B:=fP) (λf=>lI a (bL (jO U e v w) L) f=some r) (λf m=>[(0,vP g),(1,d),(2,vU (w)),(7,s.1),(12,vI (v.length:Int)),(13,vI (a.1))]) (λf m=>[Ar eO.raw s.1 m,jM cK m f]) ?_ ?_
   ·refine aS<|aT<|aA Z<|aB Z<|aL<|aT<|aA Z<|aA Z<|dB h λK h=>aC (HR Z Z K) Z<|uU Z<|bU Z<|aL ?_;refine dY h Z (λh=>?_) λh=>?_
    ·refine aO<|aA Z<|aA Z<|aA Z<|aA Z<|aA Z<|aA Z<|aA Z<|aA Z<|dN h λM N h=>aG (zBi Vo (Cc U g D E o F G H I Q J t p u d q M N) Z (jF [0,1,2,3,4,5,6,7,8,9,10] Z)) Z λT=>dN h λC O h=>aG (zBi abU (GL U g D E o F G H I Q J t p u d q C O) Z (jF [0,1,2,3,4,5,6,7,8,9,10] Z)) Z λP=>dB h λn h=>aC (b_ Z Z (bF (i:=1) (j:=2) Z Z dW) Z Z n) Z<|bQ (Know.one ((bB (aD.res 0 Z) dW))) λA=>eX (yV (k:=a.1) 2 0 Z Z Z n) ?_;refine mK 0 1 ⟨n.1,by first|exact n.2|simpa using n.2⟩ Z Z Z Z Z (by simp) A Z ?_;refine eM<|jE ?_;exact fE (List.set a.2 (Int.toNat a.1) C) (List.set b (Int.toNat a.1) P) h SF Z
    refine cU<|jE ?_;exact fE (a.2) (b) h SF Z
   intro f m h;unfold lI at h;refine aO<|cB Z<|aA Z<|aL ?_;exact uG ((wI .i64 (a.1+(1:Int))),f) (m) h SF Z
  refine eR ?_;exact fE (a.2) (b) h SF Z
 intro y z h;unfold oT at h;refine aT<|aA Z<|aB Z<|aL<|aR ?_;cases h;exact iJ (s.1,z) Z Z (RV.tmp Z) (a_.refl _) aE.nil
def BR  (a:Int):Option (Int):=
 some (a)
def xQ (c:eV) (b:fO->Option (Int)) (a:Int):Option (Int):=
 b (a,(wI .i64 (c.2+(1:Int))))
def tF (e:Int) (d:Int->Option Bool) (a:eV) (b:fO->Option (Int)):Option (Int):=
 if a.2<e then(Option.bind (d a.2) λc=>(if c=true then(ck (0<=a.2) (xQ a b (I_ .u32 a.1 (AS .u32 (1:Int) a.2))))else(xQ a b (a.1))))else(BR  (a.1))
def CN (U:Nat) (b:Int) (a:Int->Option Bool):Option (Int):=
 bL (tF b a) U ((0:Int),(0:Int))
theorem abL:aU Tryz.prog 139:=Tryz.call139
theorem Q_ (U:Nat) {j:Int} {n:Int->Option Bool} (m:FuncId) (d:fP) (k:List bJ) (f:aU Tryz.prog m) (g:∀(u:Int) (r:Bool),n u=some r->aW Tryz.prog m ([vI (u)]++d).toArray k (λ_:Unit=>vB (r)) (λ_ l=>l) (λ_ l=>l)) (r:Int) (h:CN U j n=some r):
  aW Tryz.prog 139 #[vI (j),Value.func (.func m) #[] (d).toArray] ([]++k) (λx:Unit=>vU (r)) (λx l=>l) (λ_ l=>l):=by
 refine aW.of Tryz.func139 Z Tryz.ntmps139 Z λc=>?_;unfold CN at h;refine aT<|aB Z<|aL<|aT<|aB Z<|aL<|aK<|Gg (B:=Unit) (λi=>BR  i=some r) (λi o=>[(5,vU (i))]) (λi o=>[]) (λi o=>([]++k)) ?_ ?_
 ·refine aT<|aA Z<|aA Z<|aL<|aS<|LB (B:=Unit) (tF j n) (λb p=>[(1,Value.func (.func m) #[] (d).toArray),(5,vU (b.1)),(7,vI (j)),(8,vI (b.2))]) (λb p=>[]) (λb p=>([]++k)) ((0:Int),(0:Int)) () h SF (a_.refl _) (aE.refl _ _) ?_;intro v b p h;refine aT<|cN Z<|aL<|aK ?_;refine dY h Z (λh=>?_) λh=>?_
  ·refine cD<|aK<|Gg (B:=Unit) (λa=>xQ b (bL (tF j n) v) a=some r) (λa e=>[(1,Value.func (.func m) #[] (d).toArray),(5,vU (a)),(7,vI (j)),(8,vI (b.2))]) (λa e=>[]) (λa e=>([]++k)) ?_ ?_
   ·refine aS<|aT<|aA Z<|aB Z<|aL<|aT<|aA Z<|aA Z<|dN h λs t h=>aG (pN (vs:=[vI (b.2)]) (cs:=d) f Z (g b.2 s t) Z (aE.tail _) (λ_ _=>rfl)) Z λw=>aL ?_;refine tP h Z (λ_ h=>?_) λ_ h=>?_
    ·refine aO<|aA Z<|aA Z<|dB h λq h=>aC (HQ Z Z q) Z<|aC (PG Z Z) Z<|aB Z<|eM<|jE ?_;exact fE (I_ .u32 b.1 (AS .u32 (1:Int) b.2)) () h SF Z
    refine cU<|jE ?_;exact fE (b.1) () h SF Z
   intro a e h;unfold xQ at h;refine aO<|cB Z<|aA Z<|aL ?_;exact uG (a,(wI .i64 (b.2+(1:Int)))) () h SF Z
  refine eR ?_;exact fE (b.1) () h SF Z
 intro i o h;unfold BR at h;refine aT<|aA Z<|aB Z<|aL<|aR ?_;cases h;exact gF Z
def lC (U:Nat) (b:Int) (a:KI) (c:bO):Option Bool:=
 Option.bind (fZ U ((((a.1.1,a.1.2.1,a.1.2.2)),((((a.2.1.1.1,a.2.1.1.2.1,a.2.1.1.2.2)),((a.2.1.2.1.1,a.2.1.2.1.2)),a.2.1.2.2.1,a.2.1.2.2.2)),a.2.2)) c b) λd=>(some (decide ((0:Int)<=d)))
theorem abM:aU Tryz.prog 140:=Tryz.call140
theorem Dy (U:Nat) {v:Int} {a:KI} {w:bO} (j:Nat)  (d:Nat)  (o:Value)  (p:Value)  (e:Nat)  (q:Value)  (s:Value)  (t:Value)  (u:Value)  (y:jA)  (f:Value)  (k:lO)  (g:Value)  (m:jA)  (b:Nat)  (i:Value)  (n:lO) (r:Bool) (h:lC U v a w=some r):
  aW Tryz.prog 140 #[vI (v),vP j,vP b] [bS j [vP d] 89,bS d [vS (a.1.1),o,p,vP e,g] 183,Sl aN o a.1.2.1,Sl aJ p a.1.2.2,bS e [vS (a.2.1.1.1),q,s,t,u,vI (a.2.1.2.2.1),f] 224,Sl aN q a.2.1.1.2.1,Sl aJ s a.2.1.1.2.2,Sl bR t a.2.1.2.1.1,S2 bD u y a.2.1.2.1.2,S2 bR f k a.2.1.2.2.2,S2 bD g m a.2.2,bS b [i] 38,S2 bR i n w] (λx:Unit=>vB (r)) (λx l=>l) (λ_ l=>l):=by
 refine aW.of Tryz.func140 Z Tryz.ntmps140 Z λc=>?_;refine aT<|aB Z<|aL<|aT<|aC (fJ Z (aD.fact 0 Z) Z Z Z) Z<|aC (fJ Z (aD.fact 11 Z) Z Z Z) Z<|aA Z<|dN h λz A h=>aG (zBi Vo (Cc U d o p e q s t u y f k g m i n z A) Z (jF [1,2,3,4,5,6,7,8,9,10,12] Z)) Z λB=>aC (zJ Z Z) Z<|aB Z<|aL<|aR ?_;cases h;exact gF Z
def cM (U:Nat) (a:KI) (b:bO):Option (Int):=
 Option.bind (CN U (a.2.2.length:Int) (λd=>lC U d ((((a.1.1,a.1.2.1,a.1.2.2)),((((a.2.1.1.1,a.2.1.1.2.1,a.2.1.1.2.2)),((a.2.1.2.1.1,a.2.1.2.1.2)),a.2.1.2.2.1,a.2.1.2.2.2)),a.2.2)) b)) λc=>(some (c))
theorem Mw:aU Tryz.prog 98:=Tryz.call98
theorem kI (U:Nat) {a:KI} {w:bO} (b:Nat)  (k:Value)  (m:Value)  (e:Nat)  (n:Value)  (o:Value)  (p:Value)  (q:Value)  (y:jA)  (s:Value)  (g:lO)  (f:Value)  (i:jA)  (d:Value)  (j:lO) (r:Int) (h:cM U a w=some r):
  aW Tryz.prog 98 #[vP b,d] [bS b [vS (a.1.1),k,m,vP e,f] 183,Sl aN k a.1.2.1,Sl aJ m a.1.2.2,bS e [vS (a.2.1.1.1),n,o,p,q,vI (a.2.1.2.2.1),s] 224,Sl aN n a.2.1.1.2.1,Sl aJ o a.2.1.1.2.2,Sl bR p a.2.1.2.1.1,S2 bD q y a.2.1.2.1.2,S2 bR s g a.2.1.2.2.2,S2 bD f i a.2.2,S2 bR d j w] (λx:Unit=>vU (r)) (λx l=>l) (λ_ l=>l):=by
 refine aW.of Tryz.func98 Z Tryz.ntmps98 Z λc=>?_;refine aT<|aG (aM.box (cs:=[vP b]) Z Z) Z λt=>bQ (Know.one (aD.sl (aD.fact 10 Z))) λv=>?_;refine aG (aM.box (cs:=[d]) Z (by rw[gQ v])) Z λu=>?_;refine aB Z<|aL<|aT<|cT 1 Z<|aC (cA Z) Z<|bN Z<|aC (fJ Z (aD.fact 0 Z) Z Z Z) Z<|aC (gE Z (aD.fact 9 Z) Z) Z<|aC (yW (cs:=[.tmp 2,.tmp 3]) (vs:=[vP t,vP u]) Z) Z<|dN h λz A h=>aG (zBi abL (Q_ U 140 [vP t,vP u] [bS t [vP b] 89,bS b [vS (a.1.1),k,m,vP e,f] 183,Sl aN k a.1.2.1,Sl aJ m a.1.2.2,bS e [vS (a.2.1.1.1),n,o,p,q,vI (a.2.1.2.2.1),s] 224,Sl aN n a.2.1.1.2.1,Sl aJ o a.2.1.1.2.2,Sl bR p a.2.1.2.1.1,S2 bD q y a.2.1.2.1.2,S2 bR s g a.2.1.2.2.2,S2 bD f i a.2.2,bS u [d] 38,S2 bR d j w] abM (λC r h=>Dy U t b k m e n o p q y s g f i u d j r h) z A) Z (aE.cons (aD.res 1 Z) (aE.cons (aD.fact 0 Z) (aE.cons (aD.fact 1 Z) (aE.cons (aD.fact 2 Z) (aE.cons (aD.fact 3 Z) (aE.cons (aD.fact 4 Z) (aE.cons (aD.fact 5 Z) (aE.cons (aD.fact 6 Z) (aE.cons (aD.fact 7 Z) (aE.cons (aD.fact 8 Z) (aE.cons (aD.fact 9 Z) (aE.cons (aD.res 0 Z) (jF [10] Z)))))))))))))) Z λB=>aB Z<|aL<|aR ?_;cases h;exact mR Z
end Go.Proofs.YtahgemjmgopleaaGreatDoor
namespace Go.Proofs.YtahgemjmgopleaaGreatDoor
open Go Go.Sx
abbrev RL:=E×List (Nat×E)
abbrev Et:=BW×GR×Int×bO
def Dx (R:List RL):Pk:=R.map λr=>(r.1.ts,r.2.map λs=>((s.1:Int),s.2.ts))
def OI (a:Nat) (e:E):Bool:=e.wf a false&&decide (e.depth<=100)&&decide (e.ts.length<=800)
def pC (a:Nat) (R:List RL):Bool:=decide (R.length<=20)&&R.all λr=>OI a r.1&&decide (r.2.length<=20)&&r.2.all λs=>decide (s.1<a)&&OI a s.2
instance:Inhabited E:=⟨.lf 1 0⟩
def HS (g:GR) (v i:Nat):Int:=Cm (row g (jT (row g v) i).1.toNat) (v:Int)
def fQ (g:GR):bO:=(List.range g.2.length).map λv=>(List.range (row g v).length).map (HS g v)
def BX (S:Et) (c:bO) (v:Nat) (e:E):Int:=e.den (lfD (S,c,(v:Int),[])) (row S.2.1 v).length (-1)
def tW (S:Et) (R:List RL) (c:bO) (v:Nat):Int:=C_ (R.map λr=>BX S c v r.1)
def Gq (a:Int) (b:eV) (x:Int):Int:=if b.1<=x∧x<=b.2 then x else if a=3 then -1 else if x<b.1 then b.1 else b.2
def HL (S:Et) (a:List Kb) (c:bO) (v:Nat) (b:aY) (s:Nat×E):aY:=b.set s.1 (Gq (at' a (s.1:Int)).2.1 (zV S.2.1 a v s.1) (BX S c v s.2))
def As (S:Et) (a:List Kb) (R:List RL) (c:bO) (v:Nat) (i:Int):aY:=(at' R i).2.foldl (HL S a c v) (at' c (v:Int))
def Rj (S:Et) (R:List RL) (c:bO):Nat:=pY (λv=>decide (0<=tW S R c v)) S.2.1.2.length
def gT (S:Et) (a:List Kb) (R:List RL) (c:bO) (t:Nat):bO:=(List.range c.length).map λv=>if t.testBit v=true then As S a R c v (tW S R c v)else at' c (v:Int)
structure oY (g:GR) (nv:Nat) (c:bO):Prop where
 len:c.length=g.2.length
 row:∀v:Nat,v<g.2.length->(at' c (v:Int)).length=nv
theorem HC.shape {g:GR} {c:bO} {a:List Kb} (h:HC g c a):oY g a.length c:=⟨h.len,h.row⟩
section
variable {S:Et} {nv:Nat} {c:List (List Int)} {v:Nat}
theorem wok (b:S.2.2.2=fQ S.2.1) (d:VG S.2.1) (e:oY S.2.1 nv c) (h:v<S.2.1.2.length) (j:List (Int×Int)):WOk (S,c,(v:Int),j) nv S.2.1.2.length v:=by
 refine⟨rfl,h,rfl,d.len,e.len,e.row,λu a i g=> ?_,by show S.2.2.2.length=_;rw[b];simp[fQ],λu a=>by
  show(at' S.2.2.2 (u:Int)).length=_;rw[b,fQ,EG _ a,List.length_map,List.length_range]⟩
 obtain⟨w,k,f⟩:=d.to a g;show 0<=(jT (row S.2.1 u) i).1∧(jT (row S.2.1 u) i).1<_;rw[f];omega
theorem Tt (i:S.2.2.2=fQ S.2.1) (a:VG S.2.1) (j:oY S.2.1 nv c) (f:v<S.2.1.2.length) {e:E} (b:OI nv e=true):iG 1000 S c (v:Int) e.ts=some (BX S c v e):=by
 simp only[OI,zA3,zA8]at b;have g:=a.n24;have d:=(a.node v f).deg;unfold iG;have:=aaX (wok i a j f e.ts) (deg:=(row S.2.1 v).length) Z (by omega) b.2 e false 1000 0 (-1) [] [] (by simp) Z b.1.1 (λh=>by cases h) (by omega);rw[bA (show cF 1000 _ (0:Int) (-1)=_ from this)];rfl
end
section
variable {p:BW} {g:GR} {gr:Int} {R:List RL} {nv:Nat} {c:List (List Int)} {v:Nat}
theorem EF (a:p.2.2.map tH=Dx R):p.2.2.length=R.length:=by simpa [Dx]using congrArg List.length a
theorem LZ (b:p.2.2.map tH=Dx R) {i:Nat} (a:i<R.length):tH (at' p.2.2 (i:Int))=((at' R (i:Int)).1.ts,(at' R (i:Int)).2.map λs=>((s.1:Int),s.2.ts)):=by
 have d:=EF b;have:=congrArg (λq=>q[i]?) b;simp only[Dx,List.getElem?_map,zA0 a,zA0 (show i<p.2.2.length by omega),Option.map_some,Option.some.injEq]at this;rw[jI a,jI (show i<p.2.2.length by omega)];exact this
theorem QG (a:pC nv R=true) {i:Nat} (b:i<R.length):OI nv (at' R (i:Int)).1=true∧(at' R (i:Int)).2.length<=20∧∀s∈(at' R (i:Int)).2,s.1<nv∧OI nv s.2=true:=by
 simp only[pC,zA3,zA4,zA8]at a;have:=a.2 (at' R (i:Int)) (by rw[jI b];exact List.getElem_mem b);exact⟨this.1.1,this.1.2,λs d=>this.2 s d⟩
theorem We (a:pC nv R=true):R.length<=20:=by
 simp only[pC,zA3,zA8]at a;exact a.1
theorem ZF (f:VG g) (h:oY g nv c) (j:v<g.2.length) (b:p.2.2.map tH=Dx R) (d:pC nv R=true) {i:Nat} (a:i<R.length):lJ 1000 (p,g,gr,fQ g) c (v:Int) (i:Int)=some (nz (BX (p,g,gr,fQ g) c v (at' R (i:Int)).1)):=by
 have k:=EF b;have e:(at' p.2.2 (i:Int)).2.1.2=(at' R (i:Int)).1.ts:=congrArg Prod.fst (LZ b a);unfold lJ;dsimp only;rw[cV (by omega),e];rw[bA (show iG 1000 _ c (v:Int) _=_ from Tt (S:=(p,g,gr,fQ g)) Z f h j (QG d a).1)];rfl
theorem Wd (z:VG g) (A:oY g nv c) (C:v<g.2.length) (w:p.2.2.map tH=Dx R) (s:pC nv R=true) (h:List (List (Int×Int))):fZ 1000 (p,(p,g,gr,fQ g),h) c (v:Int)=some (tW (p,g,gr,fQ g) R c v):=by
 have E:=EF w;have y:=We s;let l:=R.map λr=>BX (p,g,gr,fQ g) c v r.1;have B:l.length=R.length:=by simp[l]
 have o:∀i,i<R.length->at' l (i:Int)=BX (p,g,gr,fQ g) c v (at' R (i:Int)).1:=λi t=>by
  rw[jI (by omega),jI t];simp[l]
 have b:∀(k:Nat) a,k<R.length->lH 1000 (p,(p,g,gr,fQ g),h) c (v:Int) (k:Int) a=if nz (at' l (k:Int))=true then some (k:Int)else a (((k+1:Nat):Int)):=by
  intro k a d;unfold lH;dsimp only;rw[if_pos (by omega),bA (show lJ 1000 _ c (v:Int) (k:Int)=_ from ZF z A C w s d),o k d,dL (by omega)]
 unfold fZ tW;by_cases f:∃i,i<R.length∧at' l (i:Int)≠0
 ·obtain⟨i,t,x⟩:=f;obtain⟨m,D,q,n⟩:=OT (p:=λi=>at' l (i:Int)≠0) i x;have n:∀j,j<m->at' l (j:Int)=0:=λj u=>zAy.1 (n j u);rw[show C_ _=(m:Int)from DI (l:=l) (by omega) q n];exact cQ (K:=some (m:Int)) m (λk=>(k:Int)) (λk a d=>by rw[b k a (by omega),if_neg (by simp[nz,n k d])]) (λa=>by rw[b m a (by omega),if_pos (by simpa [nz]using q)]) 1000 (by omega)
 ·have f:∀j,j<l.length->at' l (j:Int)=0:=λj u=>zAy.1 λe=>f ⟨j,by omega,e⟩;rw[show C_ _=(-1:Int)from DG (l:=l) f];exact cQ (K:=some (-1)) R.length (λk=>(k:Int)) (λk a d=>by rw[b k a d,if_neg (by simp[nz,f k (by omega)])]) (λa=>by
   unfold lH oS;dsimp only;rw[if_neg (by omega)]) 1000 (by omega)
theorem Nq (S:Et) (R:List RL) (c:List (List Int)) (v:Nat):tW S R c v = -1∨∃i:Nat,tW S R c v=(i:Int)∧i<R.length∧BX S c v (at' R (i:Int)).1≠0:=by
 let l:=R.map λr=>BX S c v r.1;by_cases h:∃i,i<l.length∧at' l (i:Int)≠0
 ·obtain⟨i,n,k⟩:=h;obtain⟨m,o,f,a⟩:=OT (p:=λi=>at' l (i:Int)≠0) i k;have a:∀j,j<m->at' l (j:Int)=0:=λj b=>zAy.1 (a j b);have d:m<R.length:=by simp[l]at n;omega
  refine .inr ⟨m,DI (l:=l) (by omega) f a,d,?_⟩;have:at' l (m:Int)=BX S c v (at' R (m:Int)).1:=by rw[jI (by simpa [l]using d),jI d];simp[l]
  rw[<-this];exact f
 ·exact .inl (DG (l:=l) λj b=>zAy.1 λe=>h ⟨j,b,e⟩)
theorem Iv (hV:VG g) (hc:oY g nv c) (hz:p.2.2.map tH=Dx R) (hR:pC nv R=true) {tab:List (List (Int×Int))} (ht:tab.length=g.2.length):cM 1000 (p,(p,g,gr,fQ g),tab) c=some ((Rj (p,g,gr,fQ g) R c:Nat):Int):=by
 have h24:=hV.n24;unfold cM CN;let q:Nat->Bool:=λv=>decide (0<=tW (p,g,gr,fQ g) R c v);have:=cQ (step:=tF (tab.length:Int) (λy0=>lC 1000 y0 (p,(p,g,gr,fQ g),tab) c)) (K:=some ((pY q g.2.length:Nat):Int)) g.2.length (λk=>(((pY q k:Nat):Int),(k:Int))) (λk ag hk=>by
  have hm:=Hr q (k:=k) (by omega);unfold tF xQ lC;dsimp only;rw[if_pos (by omega),bA (show Option.bind (fZ 1000 _ c (k:Int)) _=some (q k) by rw[bA (show fZ 1000 _ c (k:Int)=_ from Wd hV hc hk hz hR tab)]),dL (by omega)];cases hq:q k with
  |true=>
   rw[if_pos Z,cV (by omega),Gn hm (by omega)];simp only[pY,hq,if_true]
  |false=>
   rw[if_neg (by decide)];simp only[pY,hq];rfl) (λag=>by
  unfold tF BR;dsimp only;rw[if_neg (by omega)]) 1000 (by omega)
 rw[bA (show bL _ 1000 ((0:Int),(0:Int))=_ from this)];rfl
end
theorem YU (f:Nat) (k:Int) (b:eV) (x:Int):Ai f k b x=some (Gq k b x):=by
 unfold Ai xW Gq;by_cases a:b.1<=x
 ·by_cases c:x<=b.2
  ·simp only[a,c,and_self,if_true,decide_true]
  ·simp only[a,c,and_false,if_true,if_false,decide_false,Bool.false_eq_true];split
   ·rfl
   ·split<;>rfl
 ·simp only[a,false_and,if_false,Bool.false_eq_true];split
  ·rfl
  ·split<;>rfl
theorem Nr {S:Et} {a:List Kb} {c:bO} {v:Nat} (l:List (Nat×E)) (b:aY):(l.foldl (HL S a c v) b).length=b.length:=by
 induction l generalizing b with
 |nil=>rfl
 |cons s l d=>rw[List.foldl_cons,d];simp[HL]
theorem Xw {S:Et} {a:List Kb} {R:List RL} {c:bO} {v:Nat} {i:Int}:(As S a R c v i).length=(at' c (v:Int)).length:=Nr _ _
section
variable {p:BW} {g:GR} {gr:Int} {R:List RL} {c:List (List Int)} {v:Nat}
theorem adi (A:VG g) (J:jQ g p.2.1) (o:oY g p.2.1.length c) (x:v<g.2.length) (E:p.2.2.map tH=Dx R) (H:pC p.2.1.length R=true) {i:Nat} (B:i<R.length):
  l_ 1000 (p,(p,g,gr,fQ g),Cr g p.2.1) c (v:Int) (i:Int)=some (As (p,g,gr,fQ g) p.2.1 R c v (i:Int)):=by
 have G:=A.n24;have I:=o.len;have l:=o.row v x;have N:=J.len;have O:=EF E;have r:=LZ E B;obtain⟨-,m,d⟩:=QG H B;have D:(Cr g p.2.1).length=g.2.length:=by simp[Cr]
 have w:at' (Cr g p.2.1) (v:Int)=HK g p.2.1 v:=EG _ x;have L:(HK g p.2.1 v).length=p.2.1.length:=by simp[HK]
 have y:(at' p.2.2 (i:Int)).2.2.2.map (λs=>(s.1,s.2.2))=(at' R (i:Int)).2.map λs=>((s.1:Int),s.2.ts):=congrArg Prod.snd r;have n:(at' p.2.2 (i:Int)).2.2.2.length=(at' R (i:Int)).2.length:=by simpa using congrArg List.length y
 unfold l_;dsimp only;rw[cV (by omega),cV (by simp;omega),cV (by omega),List.nil_append];unfold As;let a:=(at' R (i:Int)).2;have:=cQ (step:=lG 1000 (p,(p,g,gr,fQ g),Cr g p.2.1) c (v:Int) (i:Int)) (K:=some (a.foldl (HL (p,g,gr,fQ g) p.2.1 c v) (at' c (v:Int)))) a.length (λk=>((k:Int),(a.take k).foldl (HL (p,g,gr,fQ g) p.2.1 c v) (at' c (v:Int)))) (λk F e=>by
  have j:k<(at' p.2.2 (i:Int)).2.2.2.length:=by rw[n];exact e
  have z:((at' (at' p.2.2 (i:Int)).2.2.2 (k:Int)).1,(at' (at' p.2.2 (i:Int)).2.2.2 (k:Int)).2.2)=(((at' a (k:Int)).1:Int),(at' a (k:Int)).2.ts):=by
   have:=congrArg (λq=>q[k]?) y;simp only[List.getElem?_map,zA0 j,zA0 (show k<(at' R (i:Int)).2.length from e),Option.map_some,Option.some.injEq]at this;rw[jI j,jI e];exact this
  have f:=congrArg Prod.fst z;have h:=congrArg Prod.snd z;dsimp only at f h;obtain⟨t,u⟩:=d (at' a (k:Int)) (by rw[jI e];exact List.getElem_mem e);have C:((a.take k).foldl (HL (p,g,gr,fQ g) p.2.1 c v) (at' c (v:Int))).length=p.2.1.length:=by rw[Nr,l]
  have b:at' (HK g p.2.1 v) ((at' a (k:Int)).1:Int)=zV g p.2.1 v (at' a (k:Int)).1:=EG _ t;have M:a.length<=20:=m;unfold lG;dsimp only;rw[if_pos (by omega),cV (by omega),f,h,bA (show iG 1000 _ c (v:Int) _=_ from Tt (S:=(p,g,gr,fQ g)) Z A o x u),cV (by omega),cV (by omega),w,cV (by omega),b,bA (YU 1000 _ _ _),cV (by omega),dL (by omega),zAh,Bq e,List.foldl_append];rfl) (λF=>by
  unfold lG oQ;dsimp only;rw[if_neg (by show¬(a.length:Int)<_;rw[n];exact Int.lt_irrefl _),List.take_length]) 1000 (by show(at' R (i:Int)).2.length<1000;omega)
 exact this
theorem Wl (m:VG g) (s:jQ g p.2.1) (l:oY g p.2.1.length c) (u:p.2.2.map tH=Dx R) (o:pC p.2.1.length R=true) {t:Nat} (b:t<4294967296) (B:∀v,t.testBit v=true->0<=tW (p,g,gr,fQ g) R c v):
  f_ 1000 (p,(p,g,gr,fQ g),Cr g p.2.1) c (t:Int)=some (gT (p,g,gr,fQ g) p.2.1 R c t):=by
 have x:=m.n24;have z:=l.len;have C:=s.len;unfold f_;rw[bA (Qg c (by omega) (λv D=>by rw[l.row v (by omega)];omega))];let f:Nat->List Int:=λv=>if t.testBit v=true then As (p,g,gr,fQ g) p.2.1 R c v (tW (p,g,gr,fQ g) R c v)else at' c (v:Int);let Q:Nat->List (List Int):=λk=>(List.range k).map f++c.drop k;have y:∀k,k<=c.length->(Q k).length=c.length:=λk a=>by simp[Q];omega
 have j:∀k,k<c.length->(Q k).set k (f k)=Q (k+1):=λk a=>by
  show((List.range k).map f++c.drop k).set k (f k)=(List.range (k+1)).map f++c.drop (k+1);rw[List.set_append_right _ _ (by simp),List.length_map,List.length_range,Nat.sub_self,List.drop_eq_getElem_cons a,List.set_cons_zero,zB2,zB8,zB1,zBa];rfl
 have d:∀k,k<c.length->f k=at' c (k:Int)->Q k=Q (k+1):=λk a A=>by
  show(List.range k).map f++c.drop k=(List.range (k+1)).map f++c.drop (k+1);rw[zB2,List.drop_eq_getElem_cons a,zB8,zB1,A,jI a];simp
 rw[show c=Q 0 by simp[Q]];refine cQ (step:=jO 1000 (p,(p,g,gr,fQ g),Cr g p.2.1) (Q 0) (t:Int)) (K:=some (gT (p,g,gr,fQ g) p.2.1 R (Q 0) t)) c.length (λk=>((k:Int),Q k)) (λk w a=> ?_) (λw=> ?_) 1000 (by omega)
 ·rw[show Q 0=c by simp[Q]];unfold jO lI;dsimp only;rw[if_pos (by omega),cV (by omega),dL (by omega)];by_cases h:t.testBit k=true
  ·obtain⟨i,r,n,_⟩:=(Nq (p,g,gr,fQ g) R c k).resolve_left (λe=>by have:=B k h;omega);rw[if_pos ((Qo (by omega) b).2 h),bA (show fZ 1000 _ c (k:Int)=_ from Wd m l (by omega) u o _),r,bA (show l_ 1000 _ c (k:Int) (i:Int)=_ from adi m s l (by omega) u o n),cV (by rw[y k (by omega)];omega),zAh];have:As (p,g,gr,fQ g) p.2.1 R c k (i:Int)=f k:=by simp only[f];rw[if_pos h,r]
   rw[this,j k a]
  ·rw[if_neg (λq=>h ((Qo (by omega) b).1 q)),d k a (by simp only[f];rw[if_neg h])]
 ·rw[show Q 0=c by simp[Q]];unfold jO oT;dsimp only;rw[if_neg (by omega)];simp[Q,gT,f]
theorem Pf {S:Et} {a:List Kb} {t:Nat}:(gT S a R c t).length=c.length:=by simp[gT]
theorem JA {S:Et} {a:List Kb} {t:Nat} (b:v<c.length):at' (gT S a R c t) (v:Int)=if t.testBit v=true then As S a R c v (tW S R c v)else at' c (v:Int):=EG _ b
theorem oY.step {S:Et} {a:List Kb} {t:Nat} {e:Nat} {g:GR} (b:oY g e c):oY g e (gT S a R c t):=⟨by rw[Pf,b.len],λv d=>by
 rw[JA (by rw[b.len];exact d)];split
 ·rw[Xw,b.row v d]
 ·exact b.row v d⟩
end
end Go.Proofs.YtahgemjmgopleaaGreatDoor
namespace Go.Proofs.YtahgemjmgopleaaGreatDoor
open Go.Sx
def mT  (a:Unit):Option Bool:=
 some (true)
def jH (c:aY) (a:Int) (b:(Int)->Option Bool):Option Bool:=
 if a<(c.length:Int)then(ck (0<=a∧a<(c.length:Int)) (if(jS .u32 (at' c a) (16777215:Int))≠(0:Int)then(some (false))else(b (wI .i64 (a+(1:Int))))))else(mT  (()))
def iV (U:Nat) (a:aY):Option Bool:=
 bL (jH a) U (0:Int)
theorem Vq:aU Tryz.prog 176:=Tryz.call176
theorem Dq (U:Nat) {d:aY} (e:Value) (r:Bool) (h:iV U d=some r):
  aW Tryz.prog 176 #[e] [Sl tY e d] (λx:Unit=>vB (r)) (λx l=>l) (λ_ l=>l):=by
 refine aW.of Tryz.func176 Z Tryz.ntmps176 Z λc=>?_;unfold iV at h;refine aT<|aB Z<|aL<|aK<|dQ (λa=>mT  a=some r) (λa f=>[]) (λa f=>[]) ?_ ?_
 ·refine aT<|aA Z<|gW (aD.fact 0 Z) Z<|aA Z<|aL<|aS<|dZ (jH d) (λb g=>[(5,e),(6,vI (d.length:Int)),(7,vI (b))]) (λb g=>[]) (0:Int) () h SF (a_.refl _) ?_;intro j b g h;refine aT<|cN Z<|aL<|aK ?_;refine dY h Z (λh=>?_) λh=>?_
  ·refine cD<|aK<|aS<|aT<|dB h λi h=>aC (aZ Z Z (aD.fact 0 Z) Z Z i) Z<|aC (bY Z (aD.fact 0 Z) Z Z Z DV i) Z<|aB Z<|aL<|aT<|aA Z<|aC (wT Z Z) Z<|kH Z<|aL ?_;refine dY h Z (λh=>?_) λh=>?_
   ·refine aT<|aB Z<|aL<|aR<|bE<|aI<|aI<|bE<|aI ?_;cases h;exact gF Z
   refine cU<|jE<|aO<|cB Z<|aA Z<|aL ?_;exact uG (wI .i64 (b+(1:Int))) () h SF Z
  refine eR ?_;exact fE () (()) h SF Z
 intro a f h;unfold mT at h;refine aT<|aB Z<|aL<|aR ?_;cases h;exact gF Z
def lK  (a:Bool):Option Bool:=
 some (a)
def i_ (U:Nat) (a:AN) (c:Bool):Option Bool:=
 if c=true then(some (false))else(if(wI .i64 (a.2.2.1+(1:Int)))<a.2.2.2.1 then(some (false))else(if a.1<=a.2.1 then(if a.2.1<=(wI .i64 ((24:Int)*a.1))then(Option.bind (iV U ([a.2.2.2.2])) λb=>(lK  (b)))else(lK  (false)))else(lK  (false))))
def jU (U:Nat) (a:AN):Option Bool:=
 if a.1<(0:Int)then(i_ U a (true))else(if(4096:Int)<a.1 then(i_ U a (true))else(if a.2.2.1<(0:Int)then(i_ U a (true))else(if a.2.2.2.1<a.2.2.1 then(i_ U a (true))else(i_ U a (decide (a.1<a.2.2.2.1))))))
theorem abV:aU Tryz.prog 175:=Tryz.call175
theorem Lo (U:Nat) {a:AN} (r:Bool) (h:jU U a=some r):
  aW Tryz.prog 175 #[Value.agg #[vI (a.1),vI (a.2.1),vI (a.2.2.1),vI (a.2.2.2.1),vU (a.2.2.2.2)]] [] (λx:Unit=>vB (r)) (λx l=>l) (λ_ l=>l):=by
 refine aW.of Tryz.func175 Z Tryz.ntmps175 Z λc=>?_;refine aT<|aG (aM.box (cs:=[vI (a.1),vI (a.2.1),vI (a.2.2.1),vI (a.2.2.2.1),vU (a.2.2.2.2)]) Z Z) Z λj=>aB Z<|aL<|aK<|aK<|dQ (λb=>i_ U a b=some r) (λb k=>[(1,vP j),(29,vB (b))]) (λb k=>[bS j [vI (a.1),vI (a.2.1),vI (a.2.2.1),vI (a.2.2.2.1),vU (a.2.2.2.2)] 53]) ?_ ?_
 ·refine aO<|bN Z<|cT 0 Z<|cN Z<|aA Z ?_;refine AP h Z (λ_ h=>?_) λ_ h=>?_
  ·refine aH Z<|aH Z<|aH Z<|dC Z<|aA Z<|aH Z<|aH Z<|aH Z<|dC Z<|aA Z<|aH Z<|aH Z<|aH Z<|aH Z<|aH Z<|dC Z<|aA Z<|aH Z<|aH Z<|aH Z<|aH Z<|aH Z<|dC Z<|aL ?_;exact fE (true) () h SF Z
  refine aQ Z (cO Z Z Z Z Z) Z<|aQ Z (dO 0 Z Z Z Z Z) Z<|aQ Z (tM Z Z) Z<|dR Z<|aA Z ?_;refine AP h Z (λ_ h=>?_) λ_ h=>?_
  ·refine aH Z<|aH Z<|aH Z<|dC Z<|aA Z<|aH Z<|aH Z<|aH Z<|aH Z<|aH Z<|dC Z<|aA Z<|aH Z<|aH Z<|aH Z<|aH Z<|aH Z<|dC Z<|aL ?_;exact fE (true) () h SF Z
  refine aQ Z (cO Z Z Z Z Z) Z<|aQ Z (dO 0 Z Z Z Z Z) Z<|aQ Z (FK Z Z) Z<|dR Z<|aA Z ?_;refine AP h Z (λ_ h=>?_) λ_ h=>?_
  ·refine aH Z<|aH Z<|aH Z<|aH Z<|aH Z<|dC Z<|aA Z<|aH Z<|aH Z<|aH Z<|aH Z<|aH Z<|dC Z<|aL ?_;exact fE (true) () h SF Z
  refine aQ Z (cO Z Z Z Z Z) Z<|aQ Z (dO 0 Z Z Z Z Z) Z<|aQ Z (cO Z Z Z Z Z) Z<|aQ Z (dO 0 Z Z Z Z Z) Z<|aQ Z (tM Z Z) Z<|dR Z<|aA Z ?_;refine AP h Z (λ_ h=>?_) λ_ h=>?_
  ·refine aH Z<|aH Z<|aH Z<|aH Z<|aH Z<|dC Z<|aL ?_;exact fE (true) () h SF Z
  refine aQ Z (cO Z Z Z Z Z) Z<|aQ Z (dO 0 Z Z Z Z Z) Z<|aQ Z (cO Z Z Z Z Z) Z<|aQ Z (dO 0 Z Z Z Z Z) Z<|aQ Z (tM Z Z) Z<|dR Z<|aL ?_;exact fE (decide (a.1<a.2.2.2.1)) () h SF Z
 intro b k h;refine tP h Z (λ_ h=>?_) λ_ h=>?_
 ·refine aT<|aB Z<|aL<|aR<|aI ?_;cases h;exact mR Z
 refine cD<|aK<|aT<|bN Z<|cT 0 Z<|bN Z<|cT 0 Z<|cB Z<|aC (tM Z Z) Z<|aL ?_;refine dY h Z (λh=>?_) λh=>?_
 ·refine aT<|aB Z<|aL<|aR<|aI ?_;cases h;exact mR Z
 refine cD<|aK<|dQ (λd=>lK  d=some r) (λd m=>[(2,vB (d))]) (λd m=>[]) ?_ ?_
 ·refine aO<|bN Z<|cT 0 Z<|bN Z<|cT 0 Z<|aC (uE Z Z) Z<|aA Z ?_;refine AP h Z (λ_ h=>?_) λ_ h=>?_
  ·refine aQ Z (cO Z Z Z Z Z) Z<|aQ Z (dO 0 Z Z Z Z Z) Z<|aQ Z (cO Z Z Z Z Z) Z<|aQ Z (dO 0 Z Z Z Z Z) Z<|aQ Z (zT Z Z) Z<|aQ Z (uE Z Z) Z<|dC Z<|aA Z ?_;refine AP h Z (λ_ h=>?_) λ_ h=>?_
   ·refine aQ Z (cO Z Z Z Z Z) Z<|aQ Z (dO 0 Z Z Z Z Z) Z<|iP Z (cE (e:=fX) ([a.2.2.2.2]) [(0,vU (a.2.2.2.2))] Z Z Z Z (gM (vU (a.2.2.2.2)) Z) Z Z Z) Z λg=>dN h λf i h=>iP Z (zBi Vq (Dq U g f i) Z (aE.cons (bB (aD.res 0 Z) fS) .nil)) Z λn=>dC Z<|aB Z<|aL ?_;exact bZ (f) () h SF .nil (aE.refl _ _)
   refine aH Z<|aH Z<|aH Z<|aH Z<|dR Z<|aB Z<|aL ?_;exact bZ (false) () h SF .nil (aE.refl _ _)
  refine aH Z<|aH Z<|aH Z<|aH Z<|aH Z<|aH Z<|dR Z<|aA Z<|aH Z<|aH Z<|aH Z<|aH Z<|dR Z<|aB Z<|aL ?_;exact bZ (false) () h SF .nil (aE.refl _ _)
 intro d m h;unfold lK at h;refine aR ?_;cases h;exact gF Z
def iW (U:Nat) (a:Int):Option (Int):=
 ck (0<=(24:Int)) (ck (0<=(pQ .u32 a (24:Int))∧(pQ .u32 a (24:Int))<(JW.length:Int)) (ck (0<=(16:Int)) (ck (0<=(dD .u32 (pQ .u32 a (16:Int)) (255:Int))∧(dD .u32 (pQ .u32 a (16:Int)) (255:Int))<(JW.length:Int)) (ck (0<=(8:Int)) (ck (0<=(dD .u32 (pQ .u32 a (8:Int)) (255:Int))∧(dD .u32 (pQ .u32 a (8:Int)) (255:Int))<(JW.length:Int)) (ck (0<=(dD .u32 a (255:Int))∧(dD .u32 a (255:Int))<(JW.length:Int)) (some (wI .i64 (wI .u8 ((wI .u8 ((wI .u8 ((at' JW (pQ .u32 a (24:Int)))+(at' JW (dD .u32 (pQ .u32 a (16:Int)) (255:Int)))))+(at' JW (dD .u32 (pQ .u32 a (8:Int)) (255:Int)))))+(at' JW (dD .u32 a (255:Int)))))))))))))
theorem abW:aU Tryz.prog 177:=Tryz.call177
theorem IG (U:Nat) {a:Int} (r:Int) (h:iW U a=some r):
  aW Tryz.prog 177 #[vU (a)] [] (λx:Unit=>vI (r)) (λx l=>l) (λ_ l=>l):=by
 refine aW.of Tryz.func177 Z Tryz.ntmps177 Z λc=>?_;refine aT<|aB Z<|aL<|aK ?_;refine JR.start [0,1,3,0,8,24,56,127,0,256,768,1792,4095,0,8192,24576,65535,131071,262143] 16 mixedOrders (by decide +kernel) ?_;refine zBl (by exact rfl) ?_;refine aX Z<|dB h λb h=>fW Z (HR Z Z b)<|dB h λd h=>fW Z (EY Z Z Z Qb d)<|aX Z<|dB h λe h=>fW Z (HR Z Z e)<|fW Z (Oz Z Z)<|dB h λf h=>fW Z (EY Z Z Z Qb f)<|fW Z (wH Z Z)<|aX Z<|dB h λg h=>fW Z (HR Z Z g)<|fW Z (Oz Z Z)<|dB h λi h=>fW Z (EY Z Z Z Qb i)<|fW Z (wH Z Z)<|aX Z<|fW Z (Oz Z Z)<|dB h λj h=>fW Z (EY Z Z Z Qb j)<|bK 16 Z Z<|cB Z<|aC (EX Z Z Z) Z<|aB Z<|aL<|aR ?_;cases h;exact gF Z
def nR (b:AN) (c:Int) (a:eV):Option Ph:=
 some ((((wI .i64 (b.1+(1:Int))),(wI .i64 (b.2.1+c)),a.1,(wI .i64 (b.2.2.1+(1:Int))),a.2)),(0:Int))
def nQ (U:Nat) (a:AN) (c:Int) (d:Int) (e:Bool):Option Ph:=
 if e=true then(some ((((0:Int),(0:Int),(0:Int),(0:Int),(0:Int))),(11:Int)))else(if a.1=(4096:Int)then(some ((((0:Int),(0:Int),(0:Int),(0:Int),(0:Int))),(3:Int)))else(Option.bind (iW U c) λb=>(if(dD .u32 (jS .u32 a.2.2.2.2 c) d)=(0:Int)then(nR a b ((wI .i64 (a.2.2.1+(1:Int))),d))else(nR a b (a.2.2.1,(dD .u32 (jS .u32 a.2.2.2.2 c) d))))))
def gV (U:Nat) (a:AN) (b:Int) (c:Int):Option Ph:=
 Option.bind (jU U ((a.1,a.2.1,a.2.2.1,a.2.2.2.1,a.2.2.2.2))) λe=>(if(!e)=true then(some ((((0:Int),(0:Int),(0:Int),(0:Int),(0:Int))),(7:Int)))else(if b=(0:Int)then(nQ U a b c (true))else(Option.bind (iV U ([b,c])) λd=>(nQ U a b c ((!d))))))
theorem Vn:aU Tryz.prog 135:=Tryz.call135
theorem Ie (U:Nat) {a:AN} {g:Int} {d:Int} (r:(Int×Int×Int×Int×Int)×Int) (h:gV U a g d=some r):
  aW Tryz.prog 135 #[Value.agg #[vI (a.1),vI (a.2.1),vI (a.2.2.1),vI (a.2.2.2.1),vU (a.2.2.2.2)],vU (g),vU (d)] [] (λx:Unit=>Value.tuple #[Value.agg #[vI (r.1.1),vI (r.1.2.1),vI (r.1.2.2.1),vI (r.1.2.2.2.1),vU (r.1.2.2.2.2)],vI (r.2)]) (λx l=>l) (λ_ l=>l):=by
 refine aW.of Tryz.func135 Z Tryz.ntmps135 Z λc=>?_;refine aT<|aG (aM.box (cs:=[vI (a.1),vI (a.2.1),vI (a.2.2.1),vI (a.2.2.2.1),vU (a.2.2.2.2)]) Z Z) Z λm=>aG (aM.alloc (cs:=TI) Z Z) Z λn=>aB Z<|aL<|aK<|aT<|cG 1 Z<|dN h λu v h=>aG (zBi abV (Lo U  u v) Z .nil) Z λz=>aC (jC Z) Z<|aL ?_;refine tP h Z (λ_ h=>?_) λ_ h=>?_
 ·refine aT ?_;refine aC (Bd (r:=Value.agg #[vI (0:Int),vI (0:Int),vI (0:Int),vI (0:Int),vU (0:Int)]) (by intro w;simp[Instr.build,Instr.fill,dH,cR,cI,dJ,dK,cS,eI])) Z ?_;refine bH 0 (vs:=TI) Z Z Z Z Z Z<|aB Z<|aL<|aR<|aI ?_;cases h;exact eW () Z Z (RV.cell 0 Z Z Z Z) (RV.tmp Z) .nil aE.nil
 refine cD<|aK<|aK<|dQ (λi=>nQ U a g d i=some r) (λi t=>[(1,vU (g)),(2,vU (d)),(3,vP m),(6,vP n),(20,vB (i))]) (λi t=>[bS n TI 53,bS m [vI (a.1),vI (a.2.1),vI (a.2.2.1),vI (a.2.2.2.1),vU (a.2.2.2.2)] 53]) ?_ ?_
 ·refine aO<|aA Z<|bU Z<|aA Z ?_;refine AP h Z (λ_ h=>?_) λ_ h=>?_
  ·refine aH Z<|aH Z<|aH Z<|aH Z<|aH Z<|dC Z<|aL ?_;exact fE (true) () h SF Z
  refine cJ Z<|cJ Z<|iP Z (cE (e:=fX) ([g,d]) [(0,vU (g)),(1,vU (d))] Z Z Z Z (Sr (vU (g)) (vU (d)) Z Z) Z Z Z) Z λo=>dN h λk q h=>iP Z (zBi Vq (Dq U o k q) Z (aE.cons (bB (aD.res 0 Z) fS) .nil)) Z λy=>aQ Z (jC Z) Z<|dR Z<|aL ?_;exact bZ ((!k)) () h SF (a_.ix [1,2] Z Z) (aE.refl _ _)
 intro i t h;refine tP h Z (λ_ h=>?_) λ_ h=>?_
 ·refine aT ?_;refine aC (Bd (r:=Value.agg #[vI (0:Int),vI (0:Int),vI (0:Int),vI (0:Int),vU (0:Int)]) (by intro w;simp[Instr.build,Instr.fill,dH,cR,cI,dJ,dK,cS,eI])) Z ?_;refine bH 0 (vs:=TI) Z Z Z Z Z Z<|aB Z<|aL<|aR<|aI ?_;cases h;exact eW () Z Z (RV.cell 0 Z Z Z Z) (RV.tmp Z) .nil aE.nil
 refine cD<|aK<|aT<|bN Z<|cT 1 Z<|bU Z<|aL ?_;refine dY h Z (λh=>?_) λh=>?_
 ·refine aT ?_;refine aC (Bd (r:=Value.agg #[vI (0:Int),vI (0:Int),vI (0:Int),vI (0:Int),vU (0:Int)]) (by intro w;simp[Instr.build,Instr.fill,dH,cR,cI,dJ,dK,cS,eI])) Z ?_;refine bH 0 (vs:=TI) Z Z Z Z Z Z<|aB Z<|aL<|aR<|aI ?_;cases h;exact eW () Z Z (RV.cell 0 Z Z Z Z) (RV.tmp Z) .nil aE.nil
 refine cD<|aT<|bN Z<|cT 1 Z<|cB Z<|bN Z<|eB 1 Z Z Z Z Z Z<|aL<|aK ?_;refine JR.start [0,1,0,4,15,31,63] 4 mixedOrders (by decide +kernel) ?_;refine zBl (by exact rfl) ?_;refine cP Z<|fG 1 Z<|aX Z<|dN h λf p h=>zBk Z Z Z (zBi abW (IG U  f p) Z .nil) Z (λs=>(oU [([1],[])] Z)) λs=>bK 4 Z Z<|cB Z<|bN Z<|eB 1 Z Z Z Z Z Z<|aL<|aT<|bN Z<|cT 1 Z<|cB Z<|bN Z<|eB 1 Z Z Z Z Z Z<|aL<|aT<|bN Z<|cT 1 Z<|aA Z<|aC (wT Z Z) Z<|aA Z<|uU Z<|bN Z<|eB 1 Z Z Z Z Z Z<|aL<|aK<|dQ (λb=>nR a f b=some r) (λb j=>[(3,vP m),(6,vP n)]) (λb j=>[bS n TI 53,bS m [vI (wI .i64 (a.1+(1:Int))),vI (wI .i64 (a.2.1+f)),vI (b.1),vI (wI .i64 (a.2.2.1+(1:Int))),vU (b.2)] 53]) ?_ ?_
 ·refine aT<|bN Z<|cT 1 Z<|bU Z<|aL ?_;refine dY h Z (λh=>?_) λh=>?_
  ·refine aT<|bN Z<|cT 1 Z<|bN Z<|eB 1 Z Z Z Z Z Z<|aL<|aO<|aA Z<|bN Z<|eB 1 Z Z Z Z Z Z<|aL ?_;exact fE ((wI .i64 (a.2.2.1+(1:Int))),d) () h SF Z
  refine cD ?_;exact fE (a.2.2.1,(dD .u32 (jS .u32 a.2.2.2.2 g) d)) () h SF Z
 intro b j h;unfold nR at h;refine aT<|cG 1 Z<|bH 0 (vs:=[vI (wI .i64 (a.1+(1:Int))),vI (wI .i64 (a.2.1+f)),vI (b.1),vI (wI .i64 (a.2.2.1+(1:Int))),vU (b.2)]) Z Z Z Z Z Z<|aB Z<|aL<|aR ?_;cases h;exact eW () Z Z (RV.cell 0 Z Z Z Z) (RV.tmp Z) .nil aE.nil
end Go.Proofs.YtahgemjmgopleaaGreatDoor
namespace Go.Proofs.YtahgemjmgopleaaGreatDoor
open Go Go.Sx
abbrev CT:=AN
theorem HZ (l:aY) (h:l.length<=900):∃b,iV 1000 l=some b:=by
 unfold iV;have:=Fi (step:=jH l) (Q:=λ_:Bool=>True) (λi:Int=>∃k:Nat,i=(k:Int)∧k<=l.length) (λi=>l.length - i.toNat) (λi f c a=>by
  obtain⟨k,rfl,g⟩:=c;unfold jH mT;by_cases e:k<l.length
  ·rw[if_pos (by omega),cV (by omega)];split
   ·exact⟨_,rfl,trivial⟩
   ·rw[dL (by omega)];exact a _ ⟨k+1,rfl,by omega⟩ (by omega)
  ·rw[if_neg (by omega)];exact⟨_,rfl,trivial⟩) 1000 0 ⟨0,rfl,by omega⟩ (by omega)
 obtain⟨b,d,_⟩:=this;exact⟨b,d⟩
theorem PK (k:CT):∃b,jU 1000 k=some b:=by
 obtain⟨q,d⟩:=HZ [k.2.2.2.2] (by simp);have c:∀a,∃b,i_ 1000 k a=some b:=by
  intro a;unfold i_ lK;split
  ·exact⟨_,rfl⟩
  ·split
   ·exact⟨_,rfl⟩
   ·split
    ·split
     ·rw[bA d];exact⟨_,rfl⟩
     ·exact⟨_,rfl⟩
    ·exact⟨_,rfl⟩
 unfold jU
 repeat' split
 all_goals exact c _
theorem Xz {t:Nat} (i:t<4294967296):∃n,iW 1000 (t:Int)=some n:=by
 have g:(JW.length:Int)=256:=by decide +kernel
 have b:∀a:Nat,a<4294967296->0<=dD .u32 (a:Int) 255∧dD .u32 (a:Int) 255<256:=λa f=>by
  rw[show(255:Int)=((255:Nat):Int)from rfl,zU f (by omega)];have:a &&& 255<=255:=Nat.and_le_right;omega
 have c:∀k:Nat,k<32->pQ .u32 (t:Int) (k:Int)=((t / 2^k:Nat):Int):=λk h=>LG h;have e:pQ .u32 (t:Int) 24=((t / 2^24:Nat):Int):=c 24 (by omega);have d:pQ .u32 (t:Int) 16=((t / 2^16:Nat):Int):=c 16 (by omega);have j:pQ .u32 (t:Int) 8=((t / 2^8:Nat):Int):=c 8 (by omega);unfold iW;rw[g,e,d,j,cV (by decide),cV (by omega),cV (by decide),cV (b _ (by omega)),cV (by decide),cV (b _ (by omega)),cV (b _ i)];exact⟨_,rfl⟩
theorem R_ (k:CT) {t:Nat} (h:t<4294967296) (e:Int):∃r,gV 1000 k (t:Int) e=some r:=by
 obtain⟨b,d⟩:=PK k;obtain⟨q,g⟩:=HZ [(t:Int),e] (by simp);obtain⟨n,f⟩:=Xz h;have c:∀a,∃r,nQ 1000 k (t:Int) e a=some r:=by
  intro a;unfold nQ nR;split
  ·exact⟨_,rfl⟩
  ·split
   ·exact⟨_,rfl⟩
   ·rw[bA f];split<;>exact⟨_,rfl⟩
 unfold gV;rw[bA (show jU 1000 _=some b from d)];split
 ·exact⟨_,rfl⟩
 ·split
  ·exact c _
  ·rw[bA g];exact c _
def bI (p:BW) (g:GR):Et:=(p,g,gO g g.2.length,fQ g)
def oW (S:Et) (R:List RL) (lv:Nat) (c:bO):Nat:=Rj S R c &&& lv
theorem LN (S:Et) (R:List RL) (c:bO) (v:Nat):(Rj S R c).testBit v=(decide (v<S.2.1.2.length)&&decide (0<=tW S R c v)):=Hs _ v _
theorem Hh (S:Et) (R:List RL) (lv:Nat) (c:bO) (v:Nat):(oW S R lv c).testBit v=true↔v<S.2.1.2.length∧0<=tW S R c v∧lv.testBit v=true:=by
 unfold oW;rw[zBd,LN,zA3,zA3,zA8,zA8,and_assoc]
theorem MF {S:Et} (a:VG S.2.1) (R:List RL) (c:bO):Rj S R c<4294967296:=Hr _ (by have:=a.n24;omega)
theorem DZ (S:Et) (R:List RL) (lv:Nat) (c:bO):Gf S.2.1 (oW S R lv c):=λi a=>((Hh S R lv c i).1 a).1
def Eb (a:gZ):aY:=a.map λt=>((t:Nat):Int)
end Go.Proofs.YtahgemjmgopleaaGreatDoor
namespace Go.Proofs.YtahgemjmgopleaaGreatDoor
open Go.Sx
def mN  (a:Bool):Option Bool:=
 some (a)
def mA (U:Nat) (a:Int):Option Bool:=
 if(1:Int)<=a then(mN  (decide (a<=(4:Int))))else(mN  (false))
theorem aeQ:aU Tryz.prog 87:=Tryz.call87
theorem Nu (U:Nat) {b:Int} (r:Bool) (h:mA U b=some r):
  aW Tryz.prog 87 #[vI (b)] [] (λx:Unit=>vB (r)) (λx l=>l) (λ_ l=>l):=by
 refine aW.of Tryz.func87 Z Tryz.ntmps87 Z λc=>?_;refine aT<|aB Z<|aL<|aK<|dQ (λa=>mN  a=some r) (λa d=>[(2,vB (a))]) (λa d=>[]) ?_ ?_
 ·refine aO<|aA Z<|aC (zJ Z Z) Z<|aA Z ?_;refine AP h Z (λ_ h=>?_) λ_ h=>?_
  ·refine cJ Z<|aQ Z (uE Z Z) Z<|dC Z<|aB Z<|aL ?_;exact fE (decide (b<=(4:Int))) () h SF Z
  refine aH Z<|aH Z<|dR Z<|aB Z<|aL ?_;exact fE (false) () h SF Z
 intro a d h;unfold mN at h;refine aR ?_;cases h;exact gF Z
def kG (U:Nat) (a:iH) (b:cC) (d:Int) (e:bO) (f:Int):Option (Int):=
 Option.bind (kP U ((a.1,a.2.1,a.2.2)) ((b.1,b.2)) e) λc=>(if c≠(0:Int)then(some (c))else(Option.bind (mA U d) λg=>(if(!g)=true then(some (12:Int))else(if(4096:Int)<f then(some (3:Int))else(some (0:Int))))))
theorem YK:aU Tryz.prog 51:=Tryz.call51
theorem Le (U:Nat) {a:iH} {g:cC} {j:Int} {k:bO} {m:Int} (b:Value)  (d:Value)  (e:Value)  (f:Value)  (n:jA)  (i:Value)  (o:lO) (r:Int) (h:kG U a g j k m=some r):
  aW Tryz.prog 51 #[Value.agg #[vS (a.1),b,d],Value.agg #[e,f],vI (j),i,vI (m)] [Sl aN b a.2.1,Sl aJ d a.2.2,PF (Value.agg #[vS a.1,b,d]),Sl bR e g.1,S2 bD f n g.2,S2 bR i o k] (λx:Unit=>vI (r)) (λx l=>l) (λ_ l=>l):=by
 refine aW.of Tryz.func51 Z Tryz.ntmps51 Z λc=>?_;refine aT<|aG (aM.box (cs:=[vS (a.1),b,d]) Z Z) Z λu=>aG (aM.box (cs:=[e,f]) Z Z) Z λv=>aB Z<|aL<|aK<|aT<|cG 1 Z<|cG 0 Z<|aA Z<|dN h λp s h=>aG (zBi YP (GT U b d e f n i o p s) Z (jF [0,1,2,3,4,5] Z)) Z λw=>aB Z<|aL<|aT<|aA Z<|kH Z<|aL ?_;refine dY h Z (λh=>?_) λh=>?_
 ·refine aT<|aA Z<|aB Z<|aL<|aR<|aI ?_;cases h;exact mR Z
 refine cD<|aK<|aT<|aA Z<|dN h λq t h=>aG (zBi aeQ (Nu U  q t) Z .nil) Z λy=>aC (jC Z) Z<|aL ?_;refine tP h Z (λ_ h=>?_) λ_ h=>?_
 ·refine aT<|aB Z<|aL<|aR<|aI ?_;cases h;exact mR Z
 refine cD<|aK<|aT<|aA Z<|aC (tM Z Z) Z<|aL ?_;refine dY h Z (λh=>?_) λh=>?_
 ·refine aT<|aB Z<|aL<|aR<|aI ?_;cases h;exact mR Z
 refine cD<|aT<|aB Z<|aL<|aR ?_;cases h;exact mR Z
def lU (U:Nat) (a:bO) (b:Int) (c:AN):Option (Unit):=
 some (())
theorem PY:aU Tryz.prog 53:=Tryz.call53
theorem CR (U:Nat) {b:bO} {d:Int} {a:AN} (e:Value)  (f:lO) (r:Unit) (h:lU U b d a=some r):
  aW Tryz.prog 53 #[e,vU (d),Value.agg #[vI (a.1),vI (a.2.1),vI (a.2.2.1),vI (a.2.2.2.1),vU (a.2.2.2.2)]] [S2 bR e f b] (λx:Unit=>Value.tuple #[]) (λx l=>l) (λ_ l=>l):=by
 refine aW.of Tryz.func53 Z Tryz.ntmps53 Z λc=>?_;unfold lU at h;refine aO<|aG (aM.box (cs:=[vI (a.1),vI (a.2.1),vI (a.2.2.1),vI (a.2.2.2.1),vU (a.2.2.2.2)]) Z Z) Z λg=>eM ?_;cases h;exact Hb () Z Z .normal (.inr Z) .nil aE.nil
def pE (U:Nat) (a:Int):Option ((Int×Int×Int×Int×Int)):=
 some (((0:Int),(0:Int),(0:Int),(0:Int),(dD .u32 a (16777215:Int))))
theorem Vl:aU Tryz.prog 132:=Tryz.call132
theorem FQ (U:Nat) {a:Int} (r:(Int×Int×Int×Int×Int)) (h:pE U a=some r):
  aW Tryz.prog 132 #[vU (a)] [] (λx:Unit=>Value.agg #[vI (r.1),vI (r.2.1),vI (r.2.2.1),vI (r.2.2.2.1),vU (r.2.2.2.2)]) (λx l=>l) (λ_ l=>l):=by
 refine aW.of Tryz.func132 Z Tryz.ntmps132 Z λc=>?_;unfold pE at h;refine aT<|aG (aM.alloc (cs:=TI) Z Z) Z λb=>aL<|aT<|aA Z<|uU Z ?_;refine aC (TW (r:=Value.agg #[vI (0:Int),vI (0:Int),vI (0:Int),vI (0:Int),vU (dD .u32 a (16777215:Int))]) Z (by intro w;simp[Instr.build,Instr.fill,dH,cR,cI,dJ,dK,cS,eI])) Z ?_;refine bH 0 (vs:=[vI (0:Int),vI (0:Int),vI (0:Int),vI (0:Int),vU (dD .u32 a (16777215:Int))]) Z Z Z Z Z Z<|aL<|aR ?_;cases h;exact iJ () Z Z (RV.cell 0 Z Z Z Z) .nil aE.nil
def wR  (a:Ws):Option oM:=
 some (((a.2.2.2.2.2.2.1,a.2.2.2.2.2.2.2.1,a.2.2.2.2.2.2.2.2,((a.1,a.2.1,a.2.2.1,a.2.2.2.1,a.2.2.2.2.1)))),a.2.2.2.2.2.1)
def qT  (a:Wt):Option oM:=
 wR  (a.2.2.2.1,a.2.2.2.2.1,a.2.2.2.2.2.1,a.2.2.2.2.2.2.1,a.2.2.2.2.2.2.2.1,a.2.2.2.2.2.2.2.2,a.1,a.2.1,a.2.2.1)
def mX  (a:aY×Int×Int×Int×Int×Int×bO×aY):Option oM:=
 qT  (a.2.2.2.2.2.2.2,a.1,a.2.2.2.2.2.2.1,a.2.1,a.2.2.1,a.2.2.2.1,a.2.2.2.2.1,a.2.2.2.2.2.1,(0:Int))
def wS (U:Nat) (f:iH) (k:cC) (m:Int) (i:Int) (e:Lj) (a:Wq) (h:Wp->Option oM) (c:Int):Option oM:=
 if¬(a.1≠(0:Int))then(mX  (a.2.1,a.2.2.2.1,a.2.2.2.2.1,a.2.2.2.2.2.1,a.2.2.2.2.2.2.1,a.2.2.2.2.2.2.2.1,a.2.2.2.2.2.2.2.2.1,a.2.2.2.2.2.2.2.2.2))else(Option.bind (fF U e.2.1 m a.1 c) λj=>(if(!j)=true then(qT  (([]:aY),([]:aY),([]:bO),(0:Int),(0:Int),(0:Int),(0:Int),(0:Int),(11:Int)))else(Option.bind (f_ U ((((f.1,f.2.1,f.2.2)),((((f.1,f.2.1,f.2.2)),((k.1,k.2)),e.2.2.2.1,e.2.2.2.2)),e.2.2.1)) a.2.2.2.2.2.2.2.2.1 c) λg=>(Option.bind (cM U ((((f.1,f.2.1,f.2.2)),((((f.1,f.2.1,f.2.2)),((k.1,k.2)),e.2.2.2.1,e.2.2.2.2)),e.2.2.1)) g) λd=>(Option.bind (gV U ((a.2.2.2.1,a.2.2.2.2.1,a.2.2.2.2.2.1,a.2.2.2.2.2.2.1,a.2.2.2.2.2.2.2.1)) c (dD .u32 d i)) λb=>(Option.bind (lU U g (dD .u32 d i) ((b.1.1,b.1.2.1,b.1.2.2.1,b.1.2.2.2.1,b.1.2.2.2.2))) λl=>(ck ((a.2.2.2.2.2.2.2.2.2.length:Int)+(List.length ([c]):Int)<=1099511627) (ck ((a.2.1.length:Int)+(List.length ([(dD .u32 d i)]):Int)<=1099511627) (h ((dD .u32 d i),(a.2.1++([(dD .u32 d i)])),(wI .i64 (a.2.2.1+(1:Int))),b.1.1,b.1.2.1,b.1.2.2.1,b.1.2.2.2.1,b.1.2.2.2.2,g,(a.2.2.2.2.2.2.2.2.2++[c])))))))))))
def mZ (U:Nat) (g:iH) (h:cC) (f:Int) (i:Int) (e:aY) (c:Lj) (a:Wq) (b:Wp->Option oM):Option oM:=
 if a.2.2.1<(e.length:Int)then(ck (0<=a.2.2.1∧a.2.2.1<(e.length:Int)) (Option.bind (cY U c.2.1 f a.1 (at' e a.2.2.1)) λd=>(wS U g h f i c a b (d))))else(mX  (a.2.1,a.2.2.2.1,a.2.2.2.2.1,a.2.2.2.2.2.1,a.2.2.2.2.2.2.1,a.2.2.2.2.2.2.2.1,a.2.2.2.2.2.2.2.2.1,a.2.2.2.2.2.2.2.2.2))
def wQ (U:Nat) (d:iH) (g:cC) (h:Int) (i:bO) (f:Int) (j:aY) (c:Lj):Option oM:=
 Option.bind (s_ U i) λe=>(Option.bind (cM U ((((d.1,d.2.1,d.2.2)),((((d.1,d.2.1,d.2.2)),((g.1,g.2)),c.2.2.2.1,c.2.2.2.2)),c.2.2.1)) e) λb=>(Option.bind (pE U (dD .u32 b f)) λa=>(Option.bind (lU U e (dD .u32 b f) ((a.1,a.2.1,a.2.2.1,a.2.2.2.1,a.2.2.2.2))) λk=>(ck ((List.length ([]:aY):Int)+(List.length ([(dD .u32 b f)]):Int)<=1099511627) (bL (mZ U d g h f j c) U ((dD .u32 b f),(([]:aY)++([(dD .u32 b f)])),(0:Int),a.1,a.2.1,a.2.2.1,a.2.2.2.1,a.2.2.2.2,e,([]:aY)))))))
def qU (U:Nat) (e:iH) (b:cC) (f:Int) (g:bO) (h:Int) (i:aY) (a:iA×Int×bO):Option oM:=
 Option.bind (jV U ((b.1,b.2))) λc=>(Option.bind (uN U ((b.1,b.2))) λd=>(wQ U e b f g h i (d,c,a.1,a.2.1,a.2.2)))
def qV (U:Nat) (c:iH) (d:cC) (e:Int) (f:bO) (g:Int) (h:aY) (a:Ce):Option oM:=
 Option.bind (iX U ((c.1,c.2.1,c.2.2)) ((d.1,d.2))) λb=>(qU U c d e f g h (b,a.1,a.2))
def mY (U:Nat) (b:iH) (c:cC) (d:Int) (e:bO) (f:Int) (g:aY) (a:Ce):Option oM:=
 qV U b c d e f g (a.1,a.2)
def qW (d:cC) (a:JU) (b:JS->Option oM) (c:bO):Option oM:=
 b ((wI .i64 (a.1+(1:Int))),(max a.2.1 (at' d.1 a.1)),c)
def kV (U:Nat) (f:cC) (a:JU) (d:JS->Option oM) (b:Ce) (e:(Int×bO)->Option oM):Option oM:=
 if b.1<((at' f.2 a.1).length:Int)then(ck (0<=b.1∧b.1<((at' f.2 a.1).length:Int)) (ck (0<=a.1∧a.1<(b.2.length:Int)) (Option.bind (kO U ((f.1,f.2)) ((at' (at' f.2 a.1) b.1).1) a.1) λc=>(ck (((at' b.2 a.1).length:Int)+(List.length ([c]):Int)<=1099511627) (ck (0<=a.1∧a.1<((List.set b.2 (Int.toNat a.1) ((at' b.2 a.1)++[c])).length:Int)) (e ((wI .i64 (b.1+(1:Int))),(List.set b.2 (Int.toNat a.1) ((at' b.2 a.1)++[c])))))))))else(qW f a d (b.2))
def iC (U:Nat) (d:iH) (c:cC) (e:Int) (f:bO) (g:Int) (h:aY) (a:JU) (b:JS->Option oM):Option oM:=
 if a.1<(c.2.length:Int)then(ck (0<=a.1∧a.1<(c.2.length:Int)) (ck (0<=a.1∧a.1<(c.1.length:Int)) (bL (kV U c a b) U ((0:Int),a.2.2))))else(mY U d c e f g h (a.2.1,a.2.2))
def gY (U:Nat) (b:iH) (a:cC) (c:Int) (d:bO) (g:Int) (e:aY):Option oM:=
 Option.bind (kG U ((b.1,b.2.1,b.2.2)) ((a.1,a.2)) c d (e.length:Int)) λf=>(if f≠(0:Int)then(some (((([]:aY),([]:aY),([]:bO),(((0:Int),(0:Int),(0:Int),(0:Int),(0:Int))))),f))else(ck (0<=(a.2.length:Int)∧(a.2.length:Int)<=1099511627) (bL (iC U b a c d g e) U ((0:Int),(0:Int),(List.replicate (Int.toNat (a.2.length:Int)) ([]:aY))))))
theorem aez:aU Tryz.prog 43:=Tryz.call43
theorem IK (U:Nat) {m:iH} {C:cC} {S:Int} {p3:bO} {M:Int} {p5:aY} (o:Value)  (p:Value)  (v:Value)  (t:Value)  (z4:jA)  (v5:Value)  (z6:lO)  (v7:Value) (r:Wr) (h:gY U m C S p3 M p5=some r):
  aW Tryz.prog 43 #[Value.agg #[vS (m.1),o,p],Value.agg #[v,t],vI (S),v5,vU (M),v7] [Sl aN o m.2.1,Sl aJ p m.2.2,PF (Value.agg #[vS m.1,o,p]),Sl bR v C.1,S2 bD t z4 C.2,S2 bR v5 z6 p3,Sl tY v7 p5,Gb 0 (cellsOf HN vE)] (λx:Ij=>Value.tuple #[Value.agg #[x.1,x.2.1,x.2.2.1,vI (r.1.2.2.2.1),vI (r.1.2.2.2.2.1),vI (r.1.2.2.2.2.2.1),vI (r.1.2.2.2.2.2.2.1),vU (r.1.2.2.2.2.2.2.2)],vI (r.2)]) (λx l=>Ar fX x.1 r.1.1::Ar fX x.2.1 r.1.2.1::Ar eO.raw x.2.2.1 x.2.2.2::jM cK x.2.2.2 r.1.2.2.1::l) (λ_ l=>l):=by
 refine aW.of Tryz.func43 Z Tryz.ntmps43 Z λc=>?_;refine aT<|aG (aM.box (cs:=[vS (m.1),o,p]) Z Z) Z λb1=>aG (aM.box (cs:=[v,t]) Z Z) Z λb2=>aG (aM.alloc (cs:=yO) Z Z) Z λb3=>aB Z<|aL<|aK<|aT<|cG 2 Z<|cG 1 Z<|aA Z<|aA Z<|aA Z<|gW (aD.fact 6 Z) Z<|dN h λr4 w5 h=>aG (zBi YK (Le U o p v t z4 v5 z6 r4 w5) Z (jF [0,1,2,3,4,5] Z)) Z λx6=>aB Z<|aL<|aT<|aA Z<|kH Z<|aL ?_;refine dY h Z (λh=>?_) λh=>?_
 ·refine aT ?_;refine aC (Bd (r:=Value.agg #[iO,iO,iO,vI (0:Int),vI (0:Int),vI (0:Int),vI (0:Int),vU (0:Int)]) (by intro w;simp[Instr.build,Instr.fill,dH,cR,cI,dJ,dK,cS,eI])) Z ?_;refine aA Z<|bH 0 (vs:=yO) Z Z Z Z Z Z<|aB Z<|aL<|aR<|aI<|eX (dG fX)<|eX (dG fX)<|eX (dG eO.raw) (eX (j_ cK) ?_);cases h;exact eW ((iO),(iO),(iO),([]:fP)) Z Z (RV.cell 4 Z Z Z Z) (RV.tmp Z) (a_.ix [2,3,1,0] Z Z) aE.nil
 refine cD<|aT<|cG 2 Z<|cG 1 Z<|aA Z<|zR (A:=Lj) (B:=Nat×Value×Nat×Value×List Value×Value×List Value) (vs:=[Value.agg #[vS (m.1),o,p],Value.agg #[v,t],vI (S),Value.func (.func 53) #[] #[]]) (λq=>wQ U m C S p3 M p5 q=some r) (λq a=>Value.agg #[vP a.1,a.2.1,vI (S),vU (q.1),Value.func (.func 53) #[] #[]]) (λq a=>[Ar fX a.2.1 q.2.1,bS a.1 [vS (m.1),o,p,vP a.2.2.1,a.2.2.2.1] 183,Ar eO.raw a.2.2.2.1 a.2.2.2.2.1,jM cW a.2.2.2.2.1 q.2.2.1,bS a.2.2.1 [vS (m.1),o,p,v,t,vI (q.2.2.2.1),a.2.2.2.2.2.1] 224,Ar eO.raw a.2.2.2.2.2.1 a.2.2.2.2.2.2,jM cK a.2.2.2.2.2.2 q.2.2.2.2,bS b3 yO 55]) (λq a=>[Sl aN o m.2.1,Sl aJ p m.2.2,PF (Value.agg #[vS m.1,o,p]),Sl bR v C.1,S2 bD t z4 C.2,S2 bR v5 z6 p3,Sl tY v7 p5,Gb 0 (cellsOf HN vE)]) (rV.fn (show aU Tryz.prog 52 from Tryz.call52) Z) Tryz.func52 Z Tryz.ntmps52 Z Z ?_ ?_
 ·refine aT<|aG (aM.box (cs:=[vS (m.1),o,p]) Z Z) Z λX=>aG (aM.box (cs:=[v,t]) Z Z) Z λaa=>aG (aM.alloc (cs:=UV) Z Z) Z λab=>aL<|aK ?_;refine JR.start [0,0,3,0,15,0,0,95,0,511,1023] 9 mixedOrders (by decide +kernel) ?_;refine zBl (by exact rfl) ?_;refine gN 2 Z<|gN 1 Z<|IS (A:=iA×Int×bO) (B:=aaH) (vs:=[Value.agg #[vS (m.1),o,p],Value.agg #[v,t]]) (λI=>qU U m C S p3 M p5 I=some r) (λI g=>vP g.1) (λI g=>[bS g.1 [vS (m.1),o,p,vP g.2.1,g.2.2.1] 183,Ar eO.raw g.2.2.1 g.2.2.2.1,jM cW g.2.2.2.1 I.1,bS g.2.1 [vS (m.1),o,p,v,t,vI (I.2.1),g.2.2.2.2.1] 224,Ar eO.raw g.2.2.2.2.1 g.2.2.2.2.2,jM cK g.2.2.2.2.2 I.2.2,bS ab UV 93,bS aa [v,t] 29,bS X [vS (m.1),o,p] 36,bS b3 yO 55]) (λI g=>[Sl aN o m.2.1,Sl aJ p m.2.2,PF (Value.agg #[vS m.1,o,p]),Sl bR v C.1,S2 bD t z4 C.2,S2 bR v5 z6 p3,Sl tY v7 p5,Gb 0 (cellsOf HN vE)]) Z Z Z (rV.fn (show aU Tryz.prog 88 from Tryz.call88) Z) Tryz.func88 Z Tryz.ntmps88 Z Z (λ_ _=>(oU [] Z)) ?_ ?_
  ·refine aT<|aG (aM.box (cs:=[vS (m.1),o,p]) Z Z) Z λaf=>aG (aM.box (cs:=[v,t]) Z Z) Z λag=>aB Z<|aL<|aK ?_;refine JR.start [0,0,0,6,0,0,62,127,255,511] 7 mixedOrders (by decide +kernel) ?_;refine zBl (by exact rfl) ?_;refine gN 1 Z<|gN 1 Z<|gN 0 Z<|IS (A:=Ce) (B:=Nat×Value×List Value) (vs:=[Value.agg #[vS (m.1),o,p],Value.agg #[v,t]]) (λN=>qV U m C S p3 M p5 N=some r) (λN y=>vP y.1) (λN y=>[bS y.1 [vS (m.1),o,p,v,t,vI (N.1),y.2.1] 224,Ar eO.raw y.2.1 y.2.2,jM cK y.2.2 N.2,bS ag [v,t] 29,bS af [vS (m.1),o,p] 36,bS ab UV 93,bS aa [v,t] 29,bS X [vS (m.1),o,p] 36,bS b3 yO 55]) (λN y=>[Sl aN o m.2.1,Sl aJ p m.2.2,PF (Value.agg #[vS m.1,o,p]),Sl bR v C.1,S2 bD t z4 C.2,S2 bR v5 z6 p3,Sl tY v7 p5,Gb 0 (cellsOf HN vE)]) Z Z Z (rV.fn (show aU Tryz.prog 130 from Tryz.call130) Z) Tryz.func130 Z Tryz.ntmps130 Z Z (λ_ _=>(oU [([4],[])] Z)) ?_ ?_
   ·refine aT<|aG (aM.box (cs:=[vS (m.1),o,p]) Z Z) Z λcn=>aG (aM.box (cs:=[v,t]) Z Z) Z λac=>aB Z<|aL<|aK ?_;refine JR.start [0,0,0,4,12,28,63,127,255] 6 mixedOrders (by decide +kernel) ?_;refine zBl (by exact rfl) ?_;refine gN 1 Z<|gN 0 Z<|cP Z<|fG 0 Z<|bG Z .nil (iI 4 Z) (gE Z (aD.fact 0 Z) Z) aP.z<|dB h λbx h=>JR.stp (uB cK (Int.toNat (C.2.length:Int)))<|zBk Z Z Z (qB (e:=eO.raw) (iO) Z Z Z Z bx Z Z Z) Z (λF=>(oU [([2],[]),([3],[])] Z)) λF=>bK 6 Z Z<|bQ (Know.one (aD.sl (bF (i:=0) (j:=1) Z Z dW))) λbh=>?_;refine aC (Iq (r:=Value.agg #[vS (m.1),o,p,v,t,vI (0:Int),F]) Z Z Z (by intro w;simp[Instr.build,Instr.fill,dH,cR,cI,dJ,dK,cS,eI,gQ bh])) Z ?_;refine aG (aM.box (cs:=[vS (m.1),o,p,v,t,vI (0:Int),F]) Z Z) Z λO=>aB Z<|aL<|aK<|Bn (B:=fP) (λP=>mY U m C S p3 M p5 P=some r) (λP ah=>[(5,vP O)]) (λP ah=>[bS O [vS (m.1),o,p,v,t,vI (P.1),F] 224,Ar eO.raw F ah,jM cK ah P.2,bS ag [v,t] 29,bS af [vS (m.1),o,p] 36,bS ab UV 93,bS aa [v,t] 29,bS X [vS (m.1),o,p] 36,bS b3 yO 55]) ?_ ?_
    ·refine aT<|bN Z<|cT 3 Z<|aC (gE Z (aD.fact 4 Z) Z) Z<|aA Z<|aL<|aS<|dZ (B:=fP) (iC U m C S p3 M p5) (λd ad=>[(3,vP ac),(5,vP O),(19,t),(20,vI (C.2.length:Int)),(21,vI (d.1))]) (λd ad=>[bS O [vS (m.1),o,p,v,t,vI (d.2.1),F] 224,Ar eO.raw F ad,jM cK ad d.2.2,bS ac [v,t] 29,bS ag [v,t] 29,bS af [vS (m.1),o,p] 36,bS ab UV 93,bS aa [v,t] 29,bS X [vS (m.1),o,p] 36,bS b3 yO 55]) ((0:Int),(0:Int),(List.replicate (Int.toNat (C.2.length:Int)) ([]:aY))) (List.replicate (Int.toNat (C.2.length:Int)) (iO)) h SF (a_.ix [0,1,2,3,5,6,7,8,9,10] Z Z) ?_;intro a0 d ad h;refine aT<|cN Z<|aL<|aK ?_;refine dY h Z (λh=>?_) λh=>?_
     ·refine cD<|aK<|Bn (B:=fP) (λW=>qW C d (bL (iC U m C S p3 M p5) a0) W=some r) (λW ai=>[(3,vP ac),(5,vP O),(19,t),(20,vI (C.2.length:Int)),(21,vI (d.1))]) (λW ai=>[bS O [vS (m.1),o,p,v,t,vI (max d.2.1 (at' C.1 d.1)),F] 224,Ar eO.raw F ai,jM cK ai W,bS ac [v,t] 29,bS ag [v,t] 29,bS af [vS (m.1),o,p] 36,bS ab UV 93,bS aa [v,t] 29,bS X [vS (m.1),o,p] 36,bS b3 yO 55]) ?_ ?_
      ·refine aS<|aT<|aA Z<|dB h λQ h=>aC (b_ Z Z (aD.fact 4 Z) Z Z Q) Z<|aC (bX Z (aD.fact 4 Z) Z Z Q) Z<|aB Z<|aB Z<|aL<|aK ?_;refine JR.start [0,0,2,6,14,0,32,0,224,480,1022,2047,4095,8191] 11 mixedOrders (by decide +kernel) ?_;refine zBl (by exact rfl) ?_;refine aX Z<|aX Z<|fW Z (cA Z)<|cP Z<|fG 0 Z<|cP Z<|fG 3 Z<|aX Z<|dB h λaQ h=>bG Z .nil (iI 3 Z) (aZ Z Z (aD.fact 0 Z) Z Z aQ) aP.z<|bG Z .nil (iI 3 Z) (bY Z (aD.fact 0 Z) Z Z Z eD aQ) aP.z<|fW Z (FL Z Z)<|bK 11 Z Z<|aC (cA Z) Z<|bN Z<|eB 0 Z Z Z Z Z Z<|aL<|aT<|aA Z<|aC (fV Z (zBj (aD.fact 4 Z) Q.1 Q.2) Z) Z<|aA Z<|aL<|aS<|dZ (B:=fP) (kV U C d (bL (iC U m C S p3 M p5) a0)) (λE ae=>[(3,vP ac),(5,vP O),(6,vI (d.1)),(19,t),(20,vI (C.2.length:Int)),(21,vI (d.1)),(39,(at' z4 d.1).1),(40,vI ((at' C.2 d.1).length:Int)),(41,vI (E.1))]) (λE ae=>[bS O [vS (m.1),o,p,v,t,vI (max d.2.1 (at' C.1 d.1)),F] 224,Ar eO.raw F ae,jM cK ae E.2,bS ac [v,t] 29,bS ag [v,t] 29,bS af [vS (m.1),o,p] 36,bS ab UV 93,bS aa [v,t] 29,bS X [vS (m.1),o,p] 36,bS b3 yO 55]) ((0:Int),d.2.2) (ad) h SF (a_.refl _) ?_;intro cp E ae h;refine aT<|cN Z<|aL<|aK ?_;refine dY h Z (λh=>?_) λh=>?_
       ·refine cD<|aK<|aS<|aT<|dB h λaV h=>aC (aZ Z Z (zBj (aD.fact 4 Z) Q.1 Q.2) Z Z aV) Z<|aC (gX (cs:=[vI ((at' (at' C.2 d.1) E.1).1),vI ((at' (at' C.2 d.1) E.1).2)]) Z (zBj (aD.fact 4 Z) Q.1 Q.2) bV Z Z Z Z aV) Z<|aG (aM.alloc (cs:=Rm) Z Z) Z λco=>bH 0 (vs:=[vI ((at' (at' C.2 d.1) E.1).1),vI ((at' (at' C.2 d.1) E.1).2)]) Z Z Z Z Z Z<|aL ?_;refine JR.start [0,1,3,7,0,0,32,96,224,0,992,2016,0,0,8192,0,61440,126976,262112,524287,1048575] 19 mixedOrders (by decide +kernel) ?_;refine zBl (by exact rfl) ?_;refine aX Z<|fW Z (cA Z)<|cP Z<|fG 1 Z<|aX Z<|aX Z<|fW Z (cA Z)<|cP Z<|fG 1 Z<|aX Z<|dB h λap h=>fU (eC 3 Z) λa6=>?_;refine bG Z (a_.cons 2 Z .nil) .nil (jB 0 Z Z Z Z Z ap.1 (by have q1:=ap.2;have q2:=a6;(try simp only[zA1]at q1);(try simp only[zA1]at q2);(try simp only[zA1]);omega)) aP.z ?_;refine fU (eC 3 Z) λa7=>bG Z (a_.cons 2 Z .nil) .nil (nH 0 Z Z a7 Z Z ap) aP.z<|gN 4 Z<|cP Z<|fG 0 Z<|aX Z<|dN h λaj b9 h=>zBk Z Z Z (zBi PW (Dt U v t z4 aj b9) Z (jF [3,4] Z)) Z (λcd=>(oU [([2],[]),([2],[]),([1],[]),([1],[])] Z)) λcd=>zBk Z Z Z (cE (e:=cK) ([aj]) [(0,vI (aj))] Z Z Z Z (gM (vI (aj)) Z) Z Z Z) Z (λbP=>(oU [([3],[]),([3],[]),([2],[]),([2],[])] Z)) λbP=>dB h λbz h=>zBk Z Z Z (mL 4 dW Z Z Z (bB (aD.res 0 Z) dW) Z Z Z Z ap bz Z) Z (λa4=>(oU [([2],[])] Z)) λa4=>bK 19 Z Z<|dB h λR h=>bQ (eC 4 Z) λa8=>?_;refine aC (jB 3 Z Z Z Z Z R.1 (by have q1:=R.2;have q2:=a8;(try simp only[zA1]at q1);(try simp only[zA1]at q2);(try simp only[zA1]);omega)) Z ?_;refine bQ (zH 4 (k:=d.1) Z ⟨R.1,by first|exact R.2|simpa using R.2⟩) λbi=>?_;refine mK 3 4 ⟨R.1,by first|exact R.2|simpa using R.2⟩ Z Z Z Z Z (by simp) bi Z ?_;refine eM<|jE<|aO<|cB Z<|aA Z<|aL ?_;exact kM ((wI .i64 (E.1+(1:Int))),(List.set E.2 (Int.toNat d.1) ((at' E.2 d.1)++[aj]))) (List.set ae (Int.toNat d.1) a4) h SF (a_.ix [2,3,4,5,6,7,8,9,10,11] Z Z) (aE.refl _ _)
       refine mJ<|d_<|d_<|sJ<|jE ?_;exact fE (E.2) (ae) h SF Z
      intro W ai h;unfold qW at h;refine aO<|cB Z<|aA Z<|aL ?_;exact uG ((wI .i64 (d.1+(1:Int))),(max d.2.1 (at' C.1 d.1)),W) (ai) h SF Z
     refine eR ?_;exact bZ (d.2.1,d.2.2) (ad) h SF (a_.ix [0,1,2,4,5,6,7,8,9] Z Z) (aE.refl _ _)
    intro P ah h;unfold mY at h;refine aT<|aA Z<|aB Z<|aL<|aR ?_;exact qA (P.1,P.2) (O,F,ah) h (.inl Z) (Gc.r1 Z (RV.tmp Z)) Z (a_.refl _) (aE.refl _ _)
   intro N y h;unfold qV at h;refine bG Z (a_.cons 4 Z .nil) .nil (eP 0 Z Z Z Z) (aP.h (a_.ix [1] Z Z) .nil aP.z)<|bG Z (a_.cons 3 Z .nil) .nil (eP 0 Z Z Z Z) (aP.h (a_.ix [0] Z Z) .nil aP.z)<|dN h λa3 b8 h=>zBk Z Z Z (zBi LJ (AL U o p v t z4 a3 b8) Z (jF [0,1,2,3,4] Z)) Z (λak=>(oU [([6],[])] Z)) λak=>bK 7 Z Z<|bQ (Know.one (aD.sl (bF (i:=0) (j:=1) Z Z bV))) λbg=>?_;refine aC (Iq (r:=Value.agg #[vS (m.1),o,p,Value.pointer (some ⟨y.1,0,none⟩),ak.1]) Z Z Z (by intro w;simp[Instr.build,Instr.fill,dH,cR,cI,dJ,dK,cS,eI,gQ bg])) Z ?_;refine aG (aM.box (cs:=[vS (m.1),o,p,vP y.1,ak.1]) Z Z) Z λbj=>aB Z<|aL<|aR ?_;exact qA (a3,N.1,N.2) (bj,y.1,ak.1,ak.2,y.2.1,y.2.2) h (.inl Z) (Gc.r1 Z (RV.tmp Z)) Z (a_.ix [0,1,2,3,4,5,8,9,10,11] Z Z) (aE.refl _ _)
  intro I g h;unfold qU at h;refine bG Z (a_.cons 7 Z .nil) .nil (eP 0 Z Z Z Z) (aP.h (a_.ix [1] Z Z) .nil aP.z)<|dN h λa2 b6 h=>zBk Z Z Z (zBi YQ (FS U v t z4 a2 b6) Z (jF [3,4] Z)) Z (λau=>(oU [] Z)) λau=>fW Z (eY Z)<|bG Z (a_.cons 8 Z .nil) .nil (eP 0 Z Z Z Z) (aP.h (a_.ix [7] Z Z) .nil (aP.h (a_.ix [1] Z Z) .nil aP.z))<|dN h λar b7 h=>zBk Z Z Z (zBi YR (Lc U v t z4 ar b7) Z (jF [3,4] Z)) Z (λcc=>(oU [] Z)) λcc=>fW Z (eY Z)<|bK 9 Z Z<|bQ (Know.one ((bB (aD.res 0 Z) fS))) λbe=>?_;refine aC (Y.bld5 (r:=Value.agg #[Value.pointer (some ⟨g.1,0,none⟩),au,vI (S),vU (ar),Value.func (.func 53) #[] #[]]) Z Z Z Z Z (by intro w;simp[Instr.build,Instr.fill,dH,cR,cI,dJ,dK,cS,eI,gQ be])) Z ?_;refine bQ (Know.one ((bB (aD.res 0 Z) fS))) λbf=>bH 7 (vs:=[vP g.1,au,vI (S),vU (ar),Value.func (.func 53) #[] #[]]) Z Z (c_ Z (c_ bf (c_ Z (c_ Z (c_ Z Z))))) Z Z Z<|aL<|aR ?_;exact qA (ar,a2,I.1,I.2.1,I.2.2) (g.1,au,g.2.1,g.2.2.1,g.2.2.2.1,g.2.2.2.2.1,g.2.2.2.2.2) h (.inl Z) (Gc.r1 Z (RV.cell 7 Z Z Z Z)) Z (a_.ix [0,1,2,3,4,5,6,10] Z Z) (aE.refl _ _)
 intro q a h;refine aG (aM.alloc (cs:=UV) Z Z) Z λcx=>bQ (Know.one ((bB (aD.res 1 Z) fS))) λbk=>bH 0 (vs:=[vP a.1,a.2.1,vI (S),vU (q.1),Value.func (.func 53) #[] #[]]) Z Z (c_ Z (c_ bk (c_ Z (c_ Z (c_ Z Z))))) Z Z Z<|aL<|aT<|aA Z<|bN Z<|eB 0 Z Z Z Z Z Z<|aL<|aT<|cG 0 Z<|aA Z<|aA Z<|zR (A:=Ws) (B:=Ij) (vs:=[Value.agg #[vP a.1,a.2.1,vI (S),vU (M),Value.func (.func 53) #[] #[]],v5,v7]) (λD=>wR  D=some r) (λD G=>Value.tuple #[Value.agg #[G.1,G.2.1,G.2.2.1,vI (D.1),vI (D.2.1),vI (D.2.2.1),vI (D.2.2.2.1),vU (D.2.2.2.2.1)],vI (D.2.2.2.2.2.1)]) (λD G=>[bS b3 yO 55,Ar fX G.1 D.2.2.2.2.2.2.1,Ar fX G.2.1 D.2.2.2.2.2.2.2.1,Ar eO.raw G.2.2.1 G.2.2.2,jM cK G.2.2.2 D.2.2.2.2.2.2.2.2]) (λD G=>[Sl aN o m.2.1,Sl aJ p m.2.2,PF (Value.agg #[vS m.1,o,p]),Sl bR v C.1,S2 bD t z4 C.2,S2 bR v5 z6 p3,Sl tY v7 p5,Gb 0 (cellsOf HN vE)]) (rV.fn (show aU Tryz.prog 54 from Tryz.call54) Z) Tryz.func54 Z Tryz.ntmps54 Z Z ?_ ?_
 ·refine aT<|aG (aM.box (cs:=[vP a.1,a.2.1,vI (S),vU (M),Value.func (.func 53) #[] #[]]) Z Z) Z λal=>bQ (Know.one ((aD.fact 6 Z))) λbo=>?_;refine aG (aM.box (cs:=[v7]) Z (by rw[gQ bo])) Z λam=>?_;refine aG (aM.alloc (cs:=yO) Z Z) Z λaz=>aB Z<|aL<|aT<|cG 2 Z<|aA Z<|cT 1 Z<|gW (aD.fact 6 Z) Z<|aC (yW (cs:=[.tmp 3,.tmp 5]) (vs:=[vP al,vP am]) Z) Z<|zR (A:=Wt) (B:=Ij) (vs:=[Value.agg #[vP a.1,a.2.1,vI (S),vU (M),Value.func (.func 53) #[] #[]],v5,vI (p5.length:Int),Value.func (.func 92) #[] #[vP al,vP am]]) (λs=>qT  s=some r) (λs H=>Value.tuple #[Value.agg #[H.1,H.2.1,H.2.2.1,vI (s.2.2.2.1),vI (s.2.2.2.2.1),vI (s.2.2.2.2.2.1),vI (s.2.2.2.2.2.2.1),vU (s.2.2.2.2.2.2.2.1)],vI (s.2.2.2.2.2.2.2.2)]) (λs H=>[bS az yO 55,bS b3 yO 55,Ar fX H.1 s.1,Ar fX H.2.1 s.2.1,Ar eO.raw H.2.2.1 H.2.2.2,jM cK H.2.2.2 s.2.2.1]) (λs H=>[Sl aN o m.2.1,Sl aJ p m.2.2,PF (Value.agg #[vS m.1,o,p]),Sl bR v C.1,S2 bD t z4 C.2,S2 bR v5 z6 p3,Sl tY v7 p5,Gb 0 (cellsOf HN vE)]) (rV.fn (show aU Tryz.prog 91 from Tryz.call91) Z) Tryz.func91 Z Tryz.ntmps91 Z Z ?_ ?_
  ·refine aT<|aG (aM.box (cs:=[vP a.1,a.2.1,vI (S),vU (M),Value.func (.func 53) #[] #[]]) Z Z) Z λa5=>aG (aM.alloc (cs:=yO) Z Z) Z λaw=>aB Z<|aL<|aT<|aG (aM.alloc (cs:=yO) Z Z) Z λax=>aL<|aT<|aA Z<|dN h λaF ch h=>aG (zBi PR (Ej U v5 z6 aF ch) Z (jF [5] Z)) Z λao=>aB Z<|aL<|aK ?_;refine JR.start [0,1,0,7,0,16,63,127] 6 mixedOrders (by decide +kernel) ?_;refine zBl (by exact rfl) ?_;refine cP Z<|fG 4 Z<|aX Z<|dN h λan ci h=>zBk Z Z Z (zBi Mw (kI U a.1 o p a.2.2.1 o p v t z4 a.2.2.2.2.2.1 (List.zip a.2.2.2.2.2.2 q.2.2.2.2) a.2.2.2.1 (List.zip a.2.2.2.2.1 q.2.2.1) ao.1 (List.zip ao.2 aF) an ci) Z (aE.cons (aD.res 10 Z) (aE.cons (aD.fact 0 Z) (aE.cons (aD.fact 1 Z) (aE.cons (aD.res 13 Z) (aE.cons (aD.fact 0 Z) (aE.cons (aD.fact 1 Z) (aE.cons (aD.fact 3 Z) (aE.cons (aD.fact 4 Z) (aE.cons (bF (i:=14) (j:=15) Z Z dW) (aE.cons (bF (i:=11) (j:=12) Z Z bV) (aE.cons (bF (i:=0) (j:=1) Z Z dW) .nil)))))))))))) Z (λcl=>(oU [] Z)) λcl=>fW Z (cO Z Z Z Z Z)<|bG Z (a_.cons 4 Z .nil) .nil (dO 0 Z Z Z Z Z) (aP.h (a_.ix [4] Z Z) .nil aP.z)<|bK 6 Z Z<|uU Z<|aB Z<|aL<|aT<|aA Z<|dN h λK cj h=>aG (zBi Vl (FQ U  K cj) Z .nil) Z λcz=>aG (aM.alloc (cs:=TI) Z Z) Z λay=>bH 0 (vs:=[vI (K.1),vI (K.2.1),vI (K.2.2.1),vI (K.2.2.2.1),vU (K.2.2.2.2)]) Z Z Z Z Z Z<|aL<|aT<|bN Z<|cT 5 Z<|aA Z<|aA Z<|cG 0 Z<|dN h λcf ck h=>aG (pN (vs:=[ao.1,vU (dD .u32 an M),Value.agg #[vI (K.1),vI (K.2.1),vI (K.2.2.1),vI (K.2.2.2.1),vU (K.2.2.2.2)]]) (cs:=[]) PY Z (CR U ao.1 (List.zip ao.2 aF) cf ck) Z (aE.cons (bF (i:=1) (j:=2) Z Z dW) .nil) (λ_ _=>rfl)) Z λcF=>aL<|aT<|bN Z<|cT 3 Z<|aA Z<|aG (cE (e:=fX) ([(dD .u32 an M)]) [(0,vU (dD .u32 an M))] Z Z Z Z (gM (vU (dD .u32 an M)) Z) Z Z Z) Z λcy=>eX (dG fX)<|dB h λce h=>aG (eG 0 fS Z Z Z (bB (aD.res 1 Z) fS) Z Z Z Z ce Z) Z λcg=>bN Z<|bQ (Know.one ((bB (aD.res 0 Z) fS))) λbs=>eB 5 Z Z bs Z Z Z<|aL<|aK<|Bn (B:=Ww) (λn=>mX  n=some r) (λn J=>[(1,J.1),(8,vP aw),(10,vP ax),(12,vP ay)]) (λn J=>[Ar fX J.2.2.2 n.1,bS ay [vI (n.2.1),vI (n.2.2.1),vI (n.2.2.2.1),vI (n.2.2.2.2.1),vU (n.2.2.2.2.2.1)] 53,Ar eO.raw J.1 J.2.1,jM cK J.2.1 n.2.2.2.2.2.2.1,bS ax [J.2.2.1,J.2.2.2,iO,vI (0:Int),vI (0:Int),vI (0:Int),vI (0:Int),vU (0:Int)] 55,bS aw yO 55,bS az yO 55,bS b3 yO 55,Ar fX J.2.2.1 n.2.2.2.2.2.2.2]) ?_ ?_
   ·refine aT<|aA Z<|aA Z<|aL<|aS<|eX (dG fX)<|dZ (B:=Ww) (mZ U m C S M p5 q) (λb f=>[(1,f.1),(3,Value.func (.func 92) #[] #[vP al,vP am]),(4,vP a5),(8,vP aw),(10,vP ax),(11,vU (b.1)),(12,vP ay),(39,vI (p5.length:Int)),(40,vI (b.2.2.1))]) (λb f=>[Ar fX f.2.2.2 b.2.1,bS ay [vI (b.2.2.2.1),vI (b.2.2.2.2.1),vI (b.2.2.2.2.2.1),vI (b.2.2.2.2.2.2.1),vU (b.2.2.2.2.2.2.2.1)] 53,Ar eO.raw f.1 f.2.1,jM cK f.2.1 b.2.2.2.2.2.2.2.2.1,bS ax [f.2.2.1,f.2.2.2,iO,vI (0:Int),vI (0:Int),vI (0:Int),vI (0:Int),vU (0:Int)] 55,bS aw yO 55,bS a5 [vP a.1,a.2.1,vI (S),vU (M),Value.func (.func 53) #[] #[]] 93,bS az yO 55,bS am [v7] 25,bS al [vP a.1,a.2.1,vI (S),vU (M),Value.func (.func 53) #[] #[]] 93,Ar fX a.2.1 q.2.1,bS a.1 [vS (m.1),o,p,vP a.2.2.1,a.2.2.2.1] 183,Ar eO.raw a.2.2.2.1 a.2.2.2.2.1,jM cW a.2.2.2.2.1 q.2.2.1,bS a.2.2.1 [vS (m.1),o,p,v,t,vI (q.2.2.2.1),a.2.2.2.2.2.1] 224,Ar eO.raw a.2.2.2.2.2.1 a.2.2.2.2.2.2,jM cK a.2.2.2.2.2.2 q.2.2.2.2,bS b3 yO 55,Ar fX f.2.2.1 b.2.2.2.2.2.2.2.2.2]) ((dD .u32 an M),(([]:aY)++([(dD .u32 an M)])),(0:Int),K.1,K.2.1,K.2.2.1,K.2.2.2.1,K.2.2.2.2,aF,([]:aY)) (ao.1,ao.2,(iO),cg) h SF (a_.ix [1,3,4,5,6,7,8,9,10,11,13,14,15,16,17,18,19,20,0] Z Z) ?_;intro bA b f h;refine aT<|cN Z<|aL<|aK ?_;refine dY h Z (λh=>?_) λh=>?_
    ·refine cD<|aK<|aS<|aT<|aA Z<|aB Z<|aL<|aT<|aA Z<|aA Z<|aA Z<|zR (A:=Int) (B:=Unit) (vs:=[vI (b.2.2.1),vU (b.1),vP al,vP am]) (λL=>wS U m C S M q b (bL (mZ U m C S M p5 q) bA) L=some r) (λL av=>Value.tuple #[vU (L),vB (decide (b.1≠(0:Int)))]) (λL av=>[Ar fX f.2.2.2 b.2.1,bS ay [vI (b.2.2.2.1),vI (b.2.2.2.2.1),vI (b.2.2.2.2.2.1),vI (b.2.2.2.2.2.2.1),vU (b.2.2.2.2.2.2.2.1)] 53,Ar eO.raw f.1 f.2.1,jM cK f.2.1 b.2.2.2.2.2.2.2.2.1,bS ax [f.2.2.1,f.2.2.2,iO,vI (0:Int),vI (0:Int),vI (0:Int),vI (0:Int),vU (0:Int)] 55,bS aw yO 55,bS a5 [vP a.1,a.2.1,vI (S),vU (M),Value.func (.func 53) #[] #[]] 93,bS az yO 55,bS am [v7] 25,bS al [vP a.1,a.2.1,vI (S),vU (M),Value.func (.func 53) #[] #[]] 93,Ar fX a.2.1 q.2.1,bS a.1 [vS (m.1),o,p,vP a.2.2.1,a.2.2.2.1] 183,Ar eO.raw a.2.2.2.1 a.2.2.2.2.1,jM cW a.2.2.2.2.1 q.2.2.1,bS a.2.2.1 [vS (m.1),o,p,v,t,vI (q.2.2.2.1),a.2.2.2.2.2.1] 224,Ar eO.raw a.2.2.2.2.2.1 a.2.2.2.2.2.2,jM cK a.2.2.2.2.2.2 q.2.2.2.2,bS b3 yO 55,Ar fX f.2.2.1 b.2.2.2.2.2.2.2.2.2]) (λL av=>[Sl aN o m.2.1,Sl aJ p m.2.2,PF (Value.agg #[vS m.1,o,p]),Sl bR v C.1,S2 bD t z4 C.2,S2 bR v5 z6 p3,Sl tY v7 p5,Gb 0 (cellsOf HN vE)]) (On (us:=[vI (b.2.2.1),vU (b.1)]) (cs:=[vP al,vP am]) (show aU Tryz.prog 92 from Tryz.call92) Z Z Z) Tryz.func92 Z Tryz.ntmps92 Z Z ?_ ?_
     ·refine aT<|aB Z<|aB Z<|aL<|aK ?_;refine JR.start [0,1,0,4,0,0,0,96,224,511,0,1024,1023,8191] 13 mixedOrders (by decide +kernel) ?_;refine zBl (by exact rfl) ?_;refine cP Z<|fG 9 Z<|cP Z<|fG 9 Z<|aX Z<|fG 8 Z<|aX Z<|dB h λaH h=>bG Z .nil (iI 6 Z) (aZ Z Z (aD.fact 0 Z) Z Z aH) aP.z<|bG Z .nil (iI 6 Z) (bY Z (aD.fact 0 Z) Z Z Z DV aH) aP.z<|dN h λa1 b5 h=>zBk Z Z Z (zBi Uh (sH U a.2.1 a1 b5) Z (aE.cons (bB (aD.res 10 Z) fS) (jF [7] Z))) Z (λcb=>(oU [] Z)) λcb=>fW Z (eY Z)<|fW Z (CW Z Z)<|fW Z (qY Z)<|bK 13 Z Z<|aB Z<|aL<|aR ?_;exact qA (a1) () h (.inl Z) (Gc.r2 Z (RV.tmp Z) (RV.tmp Z)) Z (a_.refl _) (aE.refl _ _)
     intro L av h;refine aA Z<|eS Z<|eS Z<|aB Z<|aB Z<|aL<|aK<|aT<|aA Z<|aC (Yr Z) Z<|aL ?_;refine dY h Z (λh=>?_) λh=>?_
     ·refine mJ<|d_<|Va Z<|d_<|d_<|sJ<|CB ?_;exact bZ (b.2.1,b.2.2.2.1,b.2.2.2.2.1,b.2.2.2.2.2.1,b.2.2.2.2.2.2.1,b.2.2.2.2.2.2.2.1,b.2.2.2.2.2.2.2.2.1,b.2.2.2.2.2.2.2.2.2) (f.1,f.2.1,f.2.2.1,f.2.2.2) h SF (a_.ix [0,1,2,3,4,5,7,17,18] Z Z) (aE.refl _ _)
     refine cD<|aK<|aT<|bN Z<|cT 6 Z<|bN Z<|cT 6 Z<|aA Z<|aA Z<|dN h λbC bT h=>aG (zBi PS (sG U a.2.1 bC bT) Z (aE.cons (bB (aD.res 10 Z) fS) (jF [7] Z))) Z λcu=>aC (jC Z) Z<|aL ?_;refine tP h Z (λ_ h=>?_) λ_ h=>?_
     ·refine aT ?_;refine aC (Bd (r:=Value.agg #[iO,iO,iO,vI (0:Int),vI (0:Int),vI (0:Int),vI (0:Int),vU (0:Int)]) (by intro w;simp[Instr.build,Instr.fill,dH,cR,cI,dJ,dK,cS,eI])) Z ?_;refine bH 5 (vs:=yO) Z Z Z Z Z Z<|aB Z<|aL<|aR<|aI<|bE<|aI<|aI<|bE<|aI<|eX (dG fX)<|eX (dG fX)<|eX (dG eO.raw) (eX (j_ cK) ?_);exact qA (([]:aY),([]:aY),([]:bO),(0:Int),(0:Int),(0:Int),(0:Int),(0:Int),(11:Int)) ((iO),(iO),(iO),([]:fP)) h (.inl Z) (Gc.r2 Z (RV.cell 9 Z Z Z Z) (RV.tmp Z)) Z (a_.ix [11,21,2,3,1,0] Z Z) (aE.refl _ _)
     refine cD<|aT<|bN Z<|cT 6 Z<|aA Z<|aA Z<|dN h λaq bU h=>aG (zBi Vm (Cd U a.1 o p a.2.2.1 o p v t z4 a.2.2.2.2.2.1 (List.zip a.2.2.2.2.2.2 q.2.2.2.2) a.2.2.2.1 (List.zip a.2.2.2.2.1 q.2.2.1) f.1 (List.zip f.2.1 b.2.2.2.2.2.2.2.2.1) aq bU) Z (aE.cons (aD.res 11 Z) (aE.cons (aD.fact 0 Z) (aE.cons (aD.fact 1 Z) (aE.cons (aD.res 14 Z) (aE.cons (aD.fact 0 Z) (aE.cons (aD.fact 1 Z) (aE.cons (aD.fact 3 Z) (aE.cons (aD.fact 4 Z) (aE.cons (bF (i:=15) (j:=16) Z Z dW) (aE.cons (bF (i:=12) (j:=13) Z Z bV) (aE.cons (bF (i:=2) (j:=3) Z Z dW) .nil)))))))))))) Z λV=>aB Z<|aL<|aK ?_;refine JR.start [0,1,0,7,0,16,63,127] 6 mixedOrders (by decide +kernel) ?_;refine zBl (by exact rfl) ?_;refine cP Z<|fG 8 Z<|aX Z<|dN h λT bW h=>zBk Z Z Z (zBi Mw (kI U a.1 o p a.2.2.1 o p v t z4 a.2.2.2.2.2.1 (List.zip a.2.2.2.2.2.2 q.2.2.2.2) a.2.2.2.1 (List.zip a.2.2.2.2.1 q.2.2.1) V.1 (List.zip V.2 aq) T bW) Z (aE.cons (aD.res 13 Z) (aE.cons (aD.fact 0 Z) (aE.cons (aD.fact 1 Z) (aE.cons (aD.res 16 Z) (aE.cons (aD.fact 0 Z) (aE.cons (aD.fact 1 Z) (aE.cons (aD.fact 3 Z) (aE.cons (aD.fact 4 Z) (aE.cons (bF (i:=17) (j:=18) Z Z dW) (aE.cons (bF (i:=14) (j:=15) Z Z bV) (aE.cons (bF (i:=0) (j:=1) Z Z dW) .nil)))))))))))) Z (λca=>(oU [] Z)) λca=>fW Z (cO Z Z Z Z Z)<|bG Z (a_.cons 8 Z .nil) .nil (dO 0 Z Z Z Z Z) (aP.h (a_.ix [8] Z Z) .nil aP.z)<|bK 6 Z Z<|uU Z<|aB Z<|aL<|aT<|cG 3 Z<|aA Z<|aA Z<|dN h λu b0 h=>aG (zBi Vn (Ie U  u b0) Z .nil) Z λcv=>aA Z<|eS Z<|eS Z<|bH 3 (vs:=[vI (u.1.1),vI (u.1.2.1),vI (u.1.2.2.1),vI (u.1.2.2.2.1),vU (u.1.2.2.2.2)]) Z Z Z Z Z Z<|aL<|aT<|bN Z<|cT 8 Z<|aA Z<|aA Z<|cG 3 Z<|dN h λbI b4 h=>aG (pN (vs:=[V.1,vU (dD .u32 T M),Value.agg #[vI (u.1.1),vI (u.1.2.1),vI (u.1.2.2.1),vI (u.1.2.2.2.1),vU (u.1.2.2.2.2)]]) (cs:=[]) PY Z (CR U V.1 (List.zip V.2 aq) bI b4) Z (aE.cons (bF (i:=0) (j:=1) Z Z dW) .nil) (λ_ _=>rfl)) Z λcw=>aL<|aT<|bN Z<|cT 6 Z<|aA Z<|aG (cE (e:=fX) ([L]) [(0,vU (L))] Z Z Z Z (gM (vU (L)) Z) Z Z Z) Z λcq=>dB h λbu h=>aG (eG 21 fS Z Z Z (bB (aD.res 0 Z) fS) Z Z Z Z bu Z) Z λbJ=>bN Z<|bQ (Know.one ((bB (aD.res 21 Z) fS))) λbc=>eB 7 Z Z bc Z Z Z<|aL<|aO<|bN Z<|cT 7 Z<|aA Z<|aG (cE (e:=fX) ([(dD .u32 T M)]) [(0,vU (dD .u32 T M))] Z Z Z Z (gM (vU (dD .u32 T M)) Z) Z Z Z) Z λcr=>dB h λbw h=>aG (eG 4 fS Z Z Z (bB (aD.res 0 Z) fS) Z Z Z Z bw Z) Z λbM=>bN Z<|bQ (Know.one ((bB (aD.res 4 Z) fS))) λbd=>eB 8 Z Z bd Z Z Z<|eM<|jE<|aO<|cB Z<|aA Z<|aL ?_;exact kM ((dD .u32 T M),(b.2.1++([(dD .u32 T M)])),(wI .i64 (b.2.2.1+(1:Int))),u.1.1,u.1.2.1,u.1.2.2.1,u.1.2.2.2.1,u.1.2.2.2.2,aq,(b.2.2.2.2.2.2.2.2.2++[L])) (V.1,V.2,bJ,bM) h SF (a_.ix [4,5,2,3,8,9,10,11,12,13,14,15,16,17,18,19,20,21,22] Z Z) (aE.refl _ _)
    refine eR ?_;exact bZ (b.2.1,b.2.2.2.1,b.2.2.2.2.1,b.2.2.2.2.2.1,b.2.2.2.2.2.2.1,b.2.2.2.2.2.2.2.1,b.2.2.2.2.2.2.2.2.1,b.2.2.2.2.2.2.2.2.2) (f.1,f.2.1,f.2.2.1,f.2.2.2) h SF (a_.ix [0,1,2,3,4,5,7,17,18] Z Z) (aE.refl _ _)
   intro n J h;unfold mX at h;refine aK ?_;refine JR.start [0,0,1,5,15,31] 4 mixedOrders (by decide +kernel) ?_;refine zBl (by exact rfl) ?_;refine aX Z<|gN 1 Z<|cP Z<|fU (Know.one (aD.sl (bF (i:=2) (j:=3) Z Z dW))) λbt=>Ep Z Z Z (KP 4 Z Z bt Z Z Z) (λcm=>(oU [([1],[])] Z)) λcm=>bK 4 Z Z<|bN Z<|LC (CV 4 (us:=[vI (n.2.1),vI (n.2.2.1),vI (n.2.2.2.1),vI (n.2.2.2.2.1),vU (n.2.2.2.2.2.1)]) Z Z Z Z Z Z Z Z Z) λct=>aL<|aT<|cG 4 Z<|bQ (Know.one ((bB (aD.res 8 Z) fS))) λa9=>bQ (Know.one ((bB (aD.res 0 Z) fS))) λba=>bQ (Know.one (aD.sl (bF (i:=2) (j:=3) Z Z dW))) λbb=>bH 5 (vs:=[J.2.2.1,J.2.2.2,J.1,vI (n.2.1),vI (n.2.2.1),vI (n.2.2.2.1),vI (n.2.2.2.2.1),vU (n.2.2.2.2.2.1)]) Z Z (c_ a9 (c_ ba (c_ bb (c_ Z (c_ Z (c_ Z (c_ Z (c_ Z Z)))))))) Z Z Z<|aB Z<|aL<|aR ?_;exact qA (n.2.2.2.2.2.2.2,n.1,n.2.2.2.2.2.2.1,n.2.1,n.2.2.1,n.2.2.2.1,n.2.2.2.2.1,n.2.2.2.2.2.1,(0:Int)) (J.2.2.1,J.2.2.2,J.1,J.2.1) h (.inl Z) (Gc.r2 Z (RV.cell 5 Z Z Z Z) (RV.tmp Z)) Z (a_.ix [6,7,8,0,2,3] Z Z) (aE.refl _ _)
  intro s H h;unfold qT at h;refine eS Z<|eS Z<|bQ (Know.one ((bB (aD.res 2 Z) fS))) λbp=>bQ (Know.one ((bB (aD.res 3 Z) fS))) λbq=>bQ (Know.one (aD.sl (bF (i:=4) (j:=5) Z Z dW))) λbr=>bH 0 (vs:=[H.1,H.2.1,H.2.2.1,vI (s.2.2.2.1),vI (s.2.2.2.2.1),vI (s.2.2.2.2.2.1),vI (s.2.2.2.2.2.2.1),vU (s.2.2.2.2.2.2.2.1)]) Z Z (c_ bp (c_ bq (c_ br (c_ Z (c_ Z (c_ Z (c_ Z (c_ Z Z)))))))) Z Z Z<|aB Z<|aL<|aR ?_;exact qA (s.2.2.2.1,s.2.2.2.2.1,s.2.2.2.2.2.1,s.2.2.2.2.2.2.1,s.2.2.2.2.2.2.2.1,s.2.2.2.2.2.2.2.2,s.1,s.2.1,s.2.2.1) (H.1,H.2.1,H.2.2.1,H.2.2.2) h (.inl Z) (Gc.r2 Z (RV.cell 0 Z Z Z Z) (RV.tmp Z)) Z (a_.ix [1,2,3,4,5] Z Z) (aE.refl _ _)
 intro D G h;unfold wR at h;refine eS Z<|eS Z<|bQ (Know.one ((bB (aD.res 1 Z) fS))) λbl=>bQ (Know.one ((bB (aD.res 2 Z) fS))) λbm=>bQ (Know.one (aD.sl (bF (i:=3) (j:=4) Z Z dW))) λbn=>bH 0 (vs:=[G.1,G.2.1,G.2.2.1,vI (D.1),vI (D.2.1),vI (D.2.2.1),vI (D.2.2.2.1),vU (D.2.2.2.2.1)]) Z Z (c_ bl (c_ bm (c_ bn (c_ Z (c_ Z (c_ Z (c_ Z (c_ Z Z)))))))) Z Z Z<|aB Z<|aL<|aR ?_;cases h;exact eW (G.1,G.2.1,G.2.2.1,G.2.2.2) Z Z (RV.cell 0 Z Z Z Z) (RV.tmp Z) (a_.ix [1,2,3,4] Z Z) aE.nil
end Go.Proofs.YtahgemjmgopleaaGreatDoor
namespace Go.Proofs.YtahgemjmgopleaaGreatDoor
open Go Go.Sx
theorem aaw {g:GR} (e:VG g) (p:BW) (b:Int) (c:bO) (o:Int) (q:aY):
  bL (iC 1000 p g b c o q) 1000 ((0:Int),(0:Int),(List.replicate (Int.toNat (g.2.length:Int)) ([]:aY)))=mY 1000 p g b c o q (gO g g.2.length,fQ g):=by
 have B:=e.n24;have t:=e.len;let f:Nat->aY:=λv=>(List.range (row g v).length).map (HS g v);let Q:Nat->bO:=λk=>(List.range k).map f++List.replicate (g.2.length - k) [];have r:∀k,k<=g.2.length->(Q k).length=g.2.length:=λk i=>by simp[Q];omega
 rw[show List.replicate (Int.toNat (g.2.length:Int)) ([]:aY)=Q 0 by simp[Q]];refine cQ (step:=iC 1000 p g b c o q) g.2.length (λk=>((k:Int),gO g k,Q k)) (λk d i=> ?_) (λd=> ?_) 1000 (by omega)
 ·have s:=(e.node k i).deg;have w:k<(Q k).length:=by rw[r k (by omega)];exact i
  unfold iC;dsimp only;rw[if_pos (by omega),cV (by omega),cV (by omega)];let a:Nat->aY:=λj=>(List.range j).map (HS g k);have z:Q k=(Q k).set k (a 0):=by
   have:at' (Q k) (k:Int)=a 0:=by
    rw[jI w];simp[Q,a]
   rw[<-this];exact(Fz (Q k) (k:Int) (by simpa using w) (by omega)).symm
  rw[show(Q k)=(Q k).set k (a 0)from z];have h:∀A:bO,A.length=g.2.length->bL (kV 1000 g ((k:Int),gO g k,(Q k).set k (a 0)) d) 1000 ((0:Int),A.set k (a 0))=d (((k+1:Nat):Int),gO g (k+1),A.set k (f k)):=by
   intro A E;refine cQ (step:=kV 1000 g ((k:Int),gO g k,(Q k).set k (a 0)) d) (K:=d (((k+1:Nat):Int),gO g (k+1),A.set k (f k))) (row g k).length (λj=>((j:Int),A.set k (a j))) (λj m D=> ?_) (λm=> ?_) 1000 (by omega)
   ·obtain⟨u,x,l⟩:=e.to i D;have C:=(e.node u x).deg;have y:at' (A.set k (a j)) (k:Int)=a j:=by rw[CX _ _ _ _ (by omega),if_pos Z]
    have n:(a j).length=j:=by simp[a]
    unfold kV;dsimp only;rw[if_pos (show(j:Int)<((row g k).length:Int) by omega),cV (show 0<=(j:Int)∧(j:Int)<((row g k).length:Int) by omega),cV (by simp only[zA1];omega),show at' (at' g.2 (k:Int)) (j:Int)=jT (row g k) j from rfl,l,bA (show kO 1000 _ (u:Int) (k:Int)=_ from Kv g u (k:Int) x (by omega)),y,cV (by rw[n];simp;omega),cV (by simp only[zA1];omega),dL (by omega),zAh,List.set_set];have:a j++[Cm (row g u) (k:Int)]=a (j+1):=by
     simp only[a];rw[zB2,zB8,zB1,HS,l,zAh]
    rw[this]
   ·unfold kV qW;dsimp only;rw[if_neg (show¬((row g k).length:Int)<((row g k).length:Int)from Int.lt_irrefl _),dL (by omega)];rfl
  have:=h (Q k) (r k (by omega));rw[tB f [] g.2.length k i]at this;exact this
 ·unfold iC;dsimp only;rw[if_neg (by omega)];simp[Q,fQ,f]
end Go.Proofs.YtahgemjmgopleaaGreatDoor
namespace Go.Proofs.YtahgemjmgopleaaGreatDoor
open Go.Sx
def Az (b:Int) (a:Bool):Option (Int):=
 if a=true then(some (2:Int))else(if b=(43:Int)then(some (3:Int))else(some (-1:Int)))
def Ay (a:Int) (b:Bool):Option (Int):=
 if b=true then(some (1:Int))else(if(30:Int)<=a then(Az a (decide (a<=(42:Int))))else(Az a (false)))
def Ax (a:Int) (b:Bool):Option (Int):=
 if b=true then(some (0:Int))else(if(18:Int)<=a then(Ay a (decide (a<=(29:Int))))else(Ay a (false)))
def lR (U:Nat) (a:Int):Option (Int):=
 if(1:Int)<=a then(Ax a (decide (a<=(17:Int))))else(Ax a (false))
theorem PT:aU Tryz.prog 162:=Tryz.call162
theorem El (U:Nat) {b:Int} (r:Int) (h:lR U b=some r):
  aW Tryz.prog 162 #[vI (b)] [] (λx:Unit=>vI (r)) (λx l=>l) (λ_ l=>l):=by
 refine aW.of Tryz.func162 Z Tryz.ntmps162 Z λc=>?_;refine aT<|aB Z<|aL<|aK<|aS<|aK<|dQ (λd=>Ax b d=some r) (λd g=>[(0,vI (b)),(3,vB (d))]) (λd g=>[]) ?_ ?_
 ·refine aO<|aA Z<|aC (zJ Z Z) Z<|aA Z ?_;refine AP h Z (λ_ h=>?_) λ_ h=>?_
  ·refine cJ Z<|aQ Z (uE Z Z) Z<|dC Z<|aB Z<|aL ?_;exact fE (decide (b<=(17:Int))) () h SF Z
  refine aH Z<|aH Z<|dR Z<|aB Z<|aL ?_;exact fE (false) () h SF Z
 intro d g h;refine tP h Z (λ_ h=>?_) λ_ h=>?_
 ·refine aT<|aB Z<|aL<|aR<|bE<|aI ?_;cases h;exact gF Z
 refine aK<|dQ (λe=>Ay b e=some r) (λe i=>[(0,vI (b)),(10,vB (e))]) (λe i=>[]) ?_ ?_
 ·refine aO<|aA Z<|aC (zJ Z Z) Z<|aA Z ?_;refine AP h Z (λ_ h=>?_) λ_ h=>?_
  ·refine cJ Z<|aQ Z (uE Z Z) Z<|dC Z<|aB Z<|aL ?_;exact fE (decide (b<=(29:Int))) () h SF Z
  refine aH Z<|aH Z<|dR Z<|aB Z<|aL ?_;exact fE (false) () h SF Z
 intro e i h;refine tP h Z (λ_ h=>?_) λ_ h=>?_
 ·refine aT<|aB Z<|aL<|aR<|bE<|aI ?_;cases h;exact gF Z
 refine aK<|dQ (λa=>Az b a=some r) (λa f=>[(0,vI (b)),(17,vB (a))]) (λa f=>[]) ?_ ?_
 ·refine aO<|aA Z<|aC (zJ Z Z) Z<|aA Z ?_;refine AP h Z (λ_ h=>?_) λ_ h=>?_
  ·refine cJ Z<|aQ Z (uE Z Z) Z<|dC Z<|aB Z<|aL ?_;exact fE (decide (b<=(42:Int))) () h SF Z
  refine aH Z<|aH Z<|dR Z<|aB Z<|aL ?_;exact fE (false) () h SF Z
 intro a f h;refine tP h Z (λ_ h=>?_) λ_ h=>?_
 ·refine aT<|aB Z<|aL<|aR<|bE<|aI ?_;cases h;exact gF Z
 refine aT<|aA Z<|bU Z<|aB Z<|aL ?_;refine dY h Z (λh=>?_) λh=>?_
 ·refine aT<|aB Z<|aL<|aR<|bE<|aI ?_;cases h;exact gF Z
 refine cU<|jE<|aT<|aB Z<|aL<|aR ?_;cases h;exact gF Z
def tT  (a:Int):Option (Int):=
 some (a)
def tU (c:cC) (a:eV) (b:fO->Option (Int)):Option (Int):=
 if a.2<(c.1.length:Int)then(ck (0<=a.2∧a.2<(c.1.length:Int)) (b ((max a.1 (at' c.1 a.2)),(wI .i64 (a.2+(1:Int))))))else(tT  (a.1))
def nK (U:Nat) (a:cC):Option (Int):=
 bL (tU a) U ((0:Int),(0:Int))
theorem Vj:aU Tryz.prog 123:=Tryz.call123
theorem EJ (U:Nat) {e:cC} (f:Value)  (g:Value)  (n:jA) (r:Int) (h:nK U e=some r):
  aW Tryz.prog 123 #[Value.agg #[f,g]] [Sl bR f e.1,S2 bD g n e.2] (λx:Unit=>vI (r)) (λx l=>l) (λ_ l=>l):=by
 refine aW.of Tryz.func123 Z Tryz.ntmps123 Z λc=>?_;unfold nK at h;refine aT<|aG (aM.box (cs:=[f,g]) Z Z) Z λi=>aB Z<|aL<|aT<|aB Z<|aL<|aK<|dQ (λb=>tT  b=some r) (λb j=>[(3,vI (b))]) (λb j=>[]) ?_ ?_
 ·refine aT<|aB Z<|aL<|aS<|dZ (tU e) (λa k=>[(1,vP i),(3,vI (a.1)),(4,vI (a.2))]) (λa k=>[bS i [f,g] 29]) ((0:Int),(0:Int)) () h SF (a_.refl _) ?_;intro m a k h;refine aK<|aT<|aA Z<|bN Z<|cT 0 Z<|gW (aD.fact 0 Z) Z<|cN Z<|aL ?_;refine dY h Z (λh=>?_) λh=>?_
  ·refine cD<|aK<|aS<|aO<|aA Z<|bN Z<|cT 0 Z<|aA Z<|dB h λd h=>aC (aZ Z Z (aD.fact 0 Z) Z Z d) Z<|aC (bY Z (aD.fact 0 Z) Z Z Z eD d) Z<|aC (FL Z Z) Z<|aB Z<|eM<|jE<|aO<|aA Z<|cB Z<|aB Z<|aL ?_;exact uG ((max a.1 (at' e.1 a.2)),(wI .i64 (a.2+(1:Int)))) () h SF Z
  refine eR ?_;exact bZ (a.1) () h SF .nil (aE.refl _ _)
 intro b j h;unfold tT at h;refine aT<|aA Z<|aB Z<|aL<|aR ?_;cases h;exact gF Z
def fH (U:Nat) (a:Bool):Option (Int):=
 if a=true then(some (1:Int))else(some (0:Int))
theorem r_:aU Tryz.prog 199:=Tryz.call199
theorem gC (U:Nat) {a:Bool} (r:Int) (h:fH U a=some r):
  aW Tryz.prog 199 #[vB (a)] [] (λx:Unit=>vI (r)) (λx l=>l) (λ_ l=>l):=by
 refine aW.of Tryz.func199 Z Tryz.ntmps199 Z λc=>?_;refine aT<|aB Z<|aL<|aK<|aT<|aA Z<|aL ?_;refine tP h Z (λ_ h=>?_) λ_ h=>?_
 ·refine aT<|aB Z<|aL<|aR<|aI ?_;cases h;exact gF Z
 refine cD<|aT<|aB Z<|aL<|aR ?_;cases h;exact gF Z
def Jo (U:Nat) (a:cC) (d:Int) (b:Int) (c:Int):Option (Int):=
 if d=(6:Int)then(some (a.2.length:Int))else(if d=(7:Int)then(Option.bind (nK U ((a.1,a.2))) λh=>(some (h)))else(if d=(8:Int)then(ck (0<=b∧b<(a.1.length:Int)) (some (at' a.1 b)))else(if d=(9:Int)then(ck (0<=b∧b<(a.2.length:Int)) (some ((at' a.2 b).length:Int)))else(if d=(10:Int)then(Option.bind (fH U (decide (b=(0:Int)))) λe=>(some (e)))else(if d=(11:Int)then(some (c))else(ck (0<=b∧b<(a.2.length:Int)) (ck (0<=c∧c<((at' a.2 b).length:Int)) (if d=(13:Int)then(ck (0<=((at' (at' a.2 b) c).1)∧((at' (at' a.2 b) c).1)<(a.1.length:Int)) (some (at' a.1 ((at' (at' a.2 b) c).1))))else(if d=(14:Int)then(ck (0<=((at' (at' a.2 b) c).1)∧((at' (at' a.2 b) c).1)<(a.2.length:Int)) (some ((at' a.2 ((at' (at' a.2 b) c).1)).length:Int)))else(if d=(15:Int)then(Option.bind (fH U (decide (((at' (at' a.2 b) c).1)=(0:Int)))) λf=>(some (f)))else(if d=(16:Int)then(ck (0<=b∧b<(a.2.length:Int)) (ck (0<=c∧c<((at' a.2 b).length:Int)) (some ((at' (at' a.2 b) c).2))))else(Option.bind (vT U ((a.1,a.2)) ((at' (at' a.2 b) c).1) b) λg=>(some (g))))))))))))))
theorem abZ:aU Tryz.prog 198:=Tryz.call198
theorem QS (U:Nat) {m:cC} {w:Int} {y:Int} {z:Int} (j:Value)  (k:Value)  (u:jA) (r:Int) (h:Jo U m w y z=some r):
  aW Tryz.prog 198 #[Value.agg #[j,k],vI (w),vI (y),vI (z)] [Sl bR j m.1,S2 bD k u m.2] (λx:Unit=>vI (r)) (λx l=>l) (λ_ l=>l):=by
 refine aW.of Tryz.func198 Z Tryz.ntmps198 Z λc=>?_;refine aT<|aG (aM.box (cs:=[j,k]) Z Z) Z λF=>aB Z<|aL<|aK<|aT<|aA Z<|aL<|aS<|aT<|bU Z<|aB Z<|aL ?_;refine dY h Z (λh=>?_) λh=>?_
 ·refine aT<|bN Z<|cT 0 Z<|aC (gE Z (aD.fact 1 Z) Z) Z<|aB Z<|aL<|aR<|bE<|aI ?_;cases h;exact mR Z
 refine aT<|bU Z<|aB Z<|aL ?_;refine dY h Z (λh=>?_) λh=>?_
 ·refine aT<|cG 0 Z<|dN h λA B h=>aG (zBi Vj (EJ U j k u A B) Z (jF [0,1] Z)) Z λG=>aB Z<|aL<|aR<|bE<|aI ?_;cases h;exact mR Z
 refine aT<|bU Z<|aB Z<|aL ?_;refine dY h Z (λh=>?_) λh=>?_
 ·refine aT<|bN Z<|cT 0 Z<|aA Z<|dB h λv h=>aC (aZ Z Z (aD.fact 0 Z) Z Z v) Z<|aC (bY Z (aD.fact 0 Z) Z Z Z eD v) Z<|aB Z<|aL<|aR<|bE<|aI ?_;cases h;exact mR Z
 refine aT<|bU Z<|aB Z<|aL ?_;refine dY h Z (λh=>?_) λh=>?_
 ·refine aT<|bN Z<|cT 0 Z<|aA Z<|dB h λd h=>aC (b_ Z Z (aD.fact 1 Z) Z Z d) Z<|aC (bX Z (aD.fact 1 Z) Z Z d) Z<|aC (fV Z (zBj (aD.fact 1 Z) d.1 d.2) Z) Z<|aB Z<|aL<|aR<|bE<|aI ?_;cases h;exact mR Z
 refine aT<|bU Z<|aB Z<|aL ?_;refine dY h Z (λh=>?_) λh=>?_
 ·refine aT<|aA Z<|bU Z<|dN h λn q h=>aG (zBi r_ (gC U  n q) Z .nil) Z λC=>aB Z<|aL<|aR<|bE<|aI ?_;cases h;exact mR Z
 refine aT<|bU Z<|aB Z<|aL ?_;refine dY h Z (λh=>?_) λh=>?_
 ·refine aT<|aA Z<|aB Z<|aL<|aR<|bE<|aI ?_;cases h;exact mR Z
 refine cU<|jE<|aT<|bN Z<|cT 0 Z<|aA Z<|dB h λa h=>aC (b_ Z Z (aD.fact 1 Z) Z Z a) Z<|aC (bX Z (aD.fact 1 Z) Z Z a) Z<|aA Z<|dB h λf h=>aC (aZ Z Z (zBj (aD.fact 1 Z) a.1 a.2) Z Z f) Z<|aC (dX Z Z Z Z Z) Z<|aC (fD Z (zBj (aD.fact 1 Z) a.1 a.2) Z Z Z jX f) Z<|aB Z<|aL<|aK<|aT<|aA Z<|aL<|aS<|aT<|bU Z<|aB Z<|aL ?_;refine dY h Z (λh=>?_) λh=>?_
 ·refine aT<|bN Z<|cT 0 Z<|aA Z<|dB h λg h=>aC (aZ Z Z (aD.fact 0 Z) Z Z g) Z<|aC (bY Z (aD.fact 0 Z) Z Z Z eD g) Z<|aB Z<|aL<|aR<|bE<|aI ?_;cases h;exact mR Z
 refine aT<|bU Z<|aB Z<|aL ?_;refine dY h Z (λh=>?_) λh=>?_
 ·refine aT<|bN Z<|cT 0 Z<|aA Z<|dB h λe h=>aC (b_ Z Z (aD.fact 1 Z) Z Z e) Z<|aC (bX Z (aD.fact 1 Z) Z Z e) Z<|aC (fV Z (zBj (aD.fact 1 Z) e.1 e.2) Z) Z<|aB Z<|aL<|aR<|bE<|aI ?_;cases h;exact mR Z
 refine aT<|bU Z<|aB Z<|aL ?_;refine dY h Z (λh=>?_) λh=>?_
 ·refine aT<|aA Z<|bU Z<|dN h λo s h=>aG (zBi r_ (gC U  o s) Z .nil) Z λD=>aB Z<|aL<|aR<|bE<|aI ?_;cases h;exact mR Z
 refine aT<|bU Z<|aB Z<|aL ?_;refine dY h Z (λh=>?_) λh=>?_
 ·refine aT<|bN Z<|cT 0 Z<|aA Z<|dB h λb h=>aC (b_ Z Z (aD.fact 1 Z) Z Z b) Z<|aC (bX Z (aD.fact 1 Z) Z Z b) Z<|aA Z<|dB h λi h=>aC (aZ Z Z (zBj (aD.fact 1 Z) b.1 b.2) Z Z i) Z<|aC (dX Z Z Z Z Z) Z<|aC (fD Z (zBj (aD.fact 1 Z) b.1 b.2) Z Z Z EU i) Z<|aB Z<|aL<|aR<|bE<|aI ?_;cases h;exact mR Z
 refine cU<|jE<|aT<|cG 0 Z<|aA Z<|aA Z<|dN h λp t h=>aG (zBi Vi (JJ U j k u p t) Z (jF [0,1] Z)) Z λE=>aB Z<|aL<|aR ?_;cases h;exact mR Z
def CL (U:Nat) (c:cC) (e:bO) (b:Int) (d:Int) (a:eV):Option (Int):=
 if a.1=(1:Int)then(some (a.2))else(if a.1=(2:Int)then(some (1:Int))else(if a.1=(3:Int)then(some (0:Int))else(if a.1=(4:Int)then(some (-1:Int))else(if a.1=(5:Int)then(ck (0<=b∧b<(e.length:Int)) (ck (0<=a.2∧a.2<((at' e b).length:Int)) (some (at' (at' e b) a.2))))else(if a.1=(12:Int)then(ck (0<=b∧b<(c.2.length:Int)) (ck (0<=d∧d<((at' c.2 b).length:Int)) (ck (0<=((at' (at' c.2 b) d).1)∧((at' (at' c.2 b) d).1)<(e.length:Int)) (ck (0<=a.2∧a.2<((at' e ((at' (at' c.2 b) d).1)).length:Int)) (some (at' (at' e ((at' (at' c.2 b) d).1)) a.2))))))else(Option.bind (Jo U ((c.1,c.2)) a.1 b d) λf=>(some (f))))))))
theorem abN:aU Tryz.prog 163:=Tryz.call163
theorem QU (U:Nat) {k:cC} {p:bO} {q:Int} {s:Int} {g:eV} (i:Value)  (j:Value)  (u:jA)  (t:Value)  (w:lO) (r:Int) (h:CL U k p q s g=some r):
  aW Tryz.prog 163 #[Value.agg #[i,j],t,vI (q),vI (s),Value.agg #[vI (g.1),vI (g.2)]] [Sl bR i k.1,S2 bD j u k.2,S2 bR t w p] (λx:Unit=>vI (r)) (λx l=>l) (λ_ l=>l):=by
 refine aW.of Tryz.func163 Z Tryz.ntmps163 Z λc=>?_;refine aT<|aG (aM.box (cs:=[i,j]) Z Z) Z λy=>aG (aM.box (cs:=[vI (g.1),vI (g.2)]) Z Z) Z λA=>aB Z<|aL<|aK<|aT<|bN Z<|cT 0 Z<|aL<|aS<|aT<|bU Z<|aB Z<|aL ?_;refine dY h Z (λh=>?_) λh=>?_
 ·refine aT<|bN Z<|cT 0 Z<|aB Z<|aL<|aR<|bE<|aI ?_;cases h;exact mR Z
 refine aT<|bU Z<|aB Z<|aL ?_;refine dY h Z (λh=>?_) λh=>?_
 ·refine aT<|aB Z<|aL<|aR<|bE<|aI ?_;cases h;exact mR Z
 refine aT<|bU Z<|aB Z<|aL ?_;refine dY h Z (λh=>?_) λh=>?_
 ·refine aT<|aB Z<|aL<|aR<|bE<|aI ?_;cases h;exact mR Z
 refine aT<|bU Z<|aB Z<|aL ?_;refine dY h Z (λh=>?_) λh=>?_
 ·refine aT<|aB Z<|aL<|aR<|bE<|aI ?_;cases h;exact mR Z
 refine aT<|bU Z<|aB Z<|aL ?_;refine dY h Z (λh=>?_) λh=>?_
 ·refine aK ?_;refine JR.start [0,0,3,7,0,16,63,127,255] 6 mixedOrders (by decide +kernel) ?_;refine zBl (by exact rfl) ?_;refine aX Z<|aX Z<|dB h λd h=>bG Z .nil (iI 2 Z) (b_ Z Z (aD.fact 0 Z) Z Z d) aP.z<|bG Z .nil (iI 2 Z) (bX Z (aD.fact 0 Z) Z Z d) aP.z<|cP Z<|fG 0 Z<|bK 6 Z Z<|dB h λo h=>aC (aZ Z Z (zBj (aD.fact 2 Z) d.1 d.2) Z Z o) Z<|aC (bY Z (zBj (aD.fact 2 Z) d.1 d.2) Z Z Z eD o) Z<|aB Z<|aL<|aR<|bE<|aI ?_;cases h;exact mR Z
 refine aT<|bU Z<|aB Z<|aL ?_;refine dY h Z (λh=>?_) λh=>?_
 ·refine aK ?_;refine JR.start [0,0,2,0,14,30,0,126,254,510,1023,2047,0,4096,16383,32767,65535] 14 mixedOrders (by decide +kernel) ?_;refine zBl (by exact rfl) ?_;refine aX Z<|cP Z<|fG 1 Z<|aX Z<|dB h λa h=>bG Z .nil (iI 1 Z) (b_ Z Z (aD.fact 0 Z) Z Z a) aP.z<|bG Z .nil (iI 1 Z) (bX Z (aD.fact 0 Z) Z Z a) aP.z<|aX Z<|dB h λe h=>bG Z .nil (iI 1 Z) (aZ Z Z (zBj (aD.fact 0 Z) a.1 a.2) Z Z e) aP.z<|fW Z (dX Z Z Z Z Z)<|bG Z .nil (iI 1 Z) (fD Z (zBj (aD.fact 0 Z) a.1 a.2) Z Z Z jX e) aP.z<|dB h λb h=>bG Z .nil (iI 2 Z) (b_ Z Z (aD.fact 0 Z) Z Z b) aP.z<|bG Z .nil (iI 2 Z) (bX Z (aD.fact 0 Z) Z Z b) aP.z<|cP Z<|fG 0 Z<|bK 14 Z Z<|dB h λf h=>aC (aZ Z Z (zBj (aD.fact 2 Z) b.1 b.2) Z Z f) Z<|aC (bY Z (zBj (aD.fact 2 Z) b.1 b.2) Z Z Z eD f) Z<|aB Z<|aL<|aR<|bE<|aI ?_;cases h;exact mR Z
 refine cU<|jE<|aT<|cG 1 Z<|bN Z<|cT 0 Z<|aA Z<|aA Z<|dN h λm n h=>aG (zBi abZ (QS U i j u m n) Z (jF [0,1] Z)) Z λv=>aB Z<|aL<|aR ?_;cases h;exact mR Z
def sF  (a:Bool):Option Bool:=
 some (a)
def Ak (U:Nat) (a:Int):Option Bool:=
 if(20:Int)<=a then(sF  (decide (a<=(29:Int))))else(sF  (false))
theorem abO:aU Tryz.prog 164:=Tryz.call164
theorem JK (U:Nat) {b:Int} (r:Bool) (h:Ak U b=some r):
  aW Tryz.prog 164 #[vI (b)] [] (λx:Unit=>vB (r)) (λx l=>l) (λ_ l=>l):=by
 refine aW.of Tryz.func164 Z Tryz.ntmps164 Z λc=>?_;refine aT<|aB Z<|aL<|aK<|dQ (λa=>sF  a=some r) (λa d=>[(2,vB (a))]) (λa d=>[]) ?_ ?_
 ·refine aO<|aA Z<|aC (zJ Z Z) Z<|aA Z ?_;refine AP h Z (λ_ h=>?_) λ_ h=>?_
  ·refine cJ Z<|aQ Z (uE Z Z) Z<|dC Z<|aB Z<|aL ?_;exact fE (decide (b<=(29:Int))) () h SF Z
  refine aH Z<|aH Z<|dR Z<|aB Z<|aL ?_;exact fE (false) () h SF Z
 intro a d h;unfold sF at h;refine aR ?_;cases h;exact gF Z
def nL (U:Nat) (a:Int):Option (Int):=
 some (min (max a (-1073741824:Int)) (1073741824:Int))
theorem Vr:aU Tryz.prog 200:=Tryz.call200
theorem EK (U:Nat) {a:Int} (r:Int) (h:nL U a=some r):
  aW Tryz.prog 200 #[vI (a)] [] (λx:Unit=>vI (r)) (λx l=>l) (λ_ l=>l):=by
 refine aW.of Tryz.func200 Z Tryz.ntmps200 Z λc=>?_;unfold nL at h;refine aT<|aB Z<|aL<|aT<|aA Z<|aC (FL Z Z) Z<|aC (Mo Z Z) Z<|aB Z<|aL<|aR ?_;cases h;exact gF Z
def yH  (a:Unit):Option Bool:=
 some (false)
def pI (c:aY) (d:Int) (a:Int) (b:(Int)->Option Bool):Option Bool:=
 if a<(c.length:Int)then(ck (0<=a∧a<(c.length:Int)) (if(at' c a)=d then(some (true))else(b (wI .i64 (a+(1:Int))))))else(yH  (()))
def uQ (U:Nat) (a:aY) (b:Int):Option Bool:=
 bL (pI a b) U (0:Int)
theorem ab_:aU Tryz.prog 201:=Tryz.call201
theorem NB (U:Nat) {e:aY} {d:Int} (f:Value) (r:Bool) (h:uQ U e d=some r):
  aW Tryz.prog 201 #[f,vI (d)] [Sl bR f e] (λx:Unit=>vB (r)) (λx l=>l) (λ_ l=>l):=by
 refine aW.of Tryz.func201 Z Tryz.ntmps201 Z λc=>?_;unfold uQ at h;refine aT<|aB Z<|aL<|aK<|dQ (λa=>yH  a=some r) (λa g=>[]) (λa g=>[]) ?_ ?_
 ·refine aT<|aB Z<|aL<|aS<|dZ (pI e d) (λb i=>[(0,f),(1,vI (d)),(5,vI (b))]) (λb i=>[]) (0:Int) () h SF (a_.refl _) ?_;intro k b i h;refine aK<|aT<|aA Z<|aA Z<|gW (aD.fact 0 Z) Z<|cN Z<|aL ?_;refine dY h Z (λh=>?_) λh=>?_
  ·refine cD<|aK<|aS<|aT<|aA Z<|aA Z<|dB h λj h=>aC (aZ Z Z (aD.fact 0 Z) Z Z j) Z<|aC (bY Z (aD.fact 0 Z) Z Z Z eD j) Z<|aA Z<|bU Z<|aL ?_;refine dY h Z (λh=>?_) λh=>?_
   ·refine aT<|aB Z<|aL<|aR<|bE<|aI<|aI<|bE<|aI ?_;cases h;exact gF Z
   refine cU<|jE<|aO<|aA Z<|cB Z<|aB Z<|aL ?_;exact uG (wI .i64 (b+(1:Int))) () h SF Z
  refine eR ?_;exact fE () (()) h SF Z
 intro a g h;unfold yH at h;refine aT<|aB Z<|aL<|aR ?_;cases h;exact gF Z
def BD  (a:Int):Option (Int):=
 some (a)
def xH (U:Nat) (d:aY) (a:Int) (b:(Int)->Option (Int)):Option (Int):=
 Option.bind (uQ U d a) λc=>(if c=true then(b (wI .i64 (a+(1:Int))))else(BD  (a)))
def xG (U:Nat) (a:Int) (c:aY) (b:Int×Int×Int×Int×Int×Int):Option (Int):=
 if a=(20:Int)then(Option.bind (fH U (decide (b.1=(c.length:Int)))) λd=>(some (d)))else(if a=(21:Int)then(Option.bind (fH U (decide ((0:Int)<b.1))) λe=>(some (e)))else(if a=(22:Int)then(some (b.1))else(if a=(23:Int)then(some (b.2.1))else(if a=(24:Int)then(some (b.2.2.1))else(if a=(25:Int)then(some (b.2.2.2.1))else(if a=(26:Int)then(Option.bind (nL U b.2.2.2.2.2) λf=>(some (f)))else(if a=(28:Int)then(some (b.2.2.2.2.1))else(if a=(27:Int)then(bL (xH U c) U (0:Int))else(if(c.length:Int)=(0:Int)then(some (0:Int))else(ck (0<=(0:Int)∧(0:Int)<(c.length:Int)) (some (at' c (0:Int)))))))))))))
def BF (b:aY) (a:Tj) (c:Wv->Option (Int)) (d:Int) (e:Int):Option (Int):=
 ck (0<=a.2.2.2.2.2.2∧a.2.2.2.2.2.2<(b.length:Int)) (ck (0<=a.2.2.2.2.2.2∧a.2.2.2.2.2.2<(b.length:Int)) (ck (0<=a.2.2.2.2.2.2∧a.2.2.2.2.2.2<(b.length:Int)) (ck (0<=a.2.2.2.2.2.2∧a.2.2.2.2.2.2<(b.length:Int)) (c (d,e,(min a.2.2.1 (at' b a.2.2.2.2.2.2)),(max a.2.2.2.1 (at' b a.2.2.2.2.2.2)),(max a.2.2.2.2.1 (min a.2.2.2.1 (at' b a.2.2.2.2.2.2))),(wI .i64 (a.2.2.2.2.2.1+(at' b a.2.2.2.2.2.2))),(wI .i64 (a.2.2.2.2.2.2+(1:Int))))))))
def BG (e:aY) (a:Tj) (b:Wv->Option (Int)) (c:Int) (d:Bool):Option (Int):=
 if d=true then(BF e a b c (a.2.2.2.2.2.2))else(BF e a b c (a.2.1))
def BE (d:aY) (a:Tj) (b:Wv->Option (Int)) (c:Int):Option (Int):=
 ck (0<=a.2.2.2.2.2.2∧a.2.2.2.2.2.2<(d.length:Int)) (if(at' d a.2.2.2.2.2.2)≠(0:Int)then(BG d a b c (decide (a.2.1<(0:Int))))else(BG d a b c (false)))
def nE (U:Nat) (d:Int) (c:aY) (a:Tj) (b:Wv->Option (Int)):Option (Int):=
 if a.2.2.2.2.2.2<(c.length:Int)then(ck (0<=a.2.2.2.2.2.2∧a.2.2.2.2.2.2<(c.length:Int)) (if(at' c a.2.2.2.2.2.2)≠(0:Int)then(BE c a b (wI .i64 (a.1+(1:Int))))else(BE c a b (a.1))))else(xG U d c (a.1,a.2.1,a.2.2.1,a.2.2.2.1,a.2.2.2.2.1,a.2.2.2.2.2.1))
def sD (U:Nat) (a:Int) (b:aY):Option (Int):=
 bL (nE U a b) U ((0:Int),(-1:Int),(1073741824:Int),(-1073741824:Int),(-1073741824:Int),(0:Int),(0:Int))
theorem abP:aU Tryz.prog 165:=Tryz.call165
theorem QT (U:Nat) {f:Int} {d:aY} (m:Value) (r:Int) (h:sD U f d=some r):
  aW Tryz.prog 165 #[vI (f),m] [Sl bR m d] (λx:Unit=>vI (r)) (λx l=>l) (λ_ l=>l):=by
 refine aW.of Tryz.func165 Z Tryz.ntmps165 Z λc=>?_;unfold sD at h;refine aT<|aB Z<|aL<|aT<|aB Z<|aB Z<|aB Z<|aB Z<|aB Z<|aB Z<|aL<|aK<|dQ (λk=>xG U f d k=some r) (λk L=>[(0,vI (f)),(1,m),(5,vI (k.1)),(6,vI (k.2.1)),(7,vI (k.2.2.1)),(8,vI (k.2.2.2.1)),(9,vI (k.2.2.2.2.1)),(10,vI (k.2.2.2.2.2))]) (λk L=>[]) ?_ ?_
 ·refine aT<|aB Z<|aL<|aS<|dZ (nE U f d) (λa q=>[(0,vI (f)),(1,m),(5,vI (a.1)),(6,vI (a.2.1)),(7,vI (a.2.2.1)),(8,vI (a.2.2.2.1)),(9,vI (a.2.2.2.2.1)),(10,vI (a.2.2.2.2.2.1)),(11,vI (a.2.2.2.2.2.2))]) (λa q=>[]) ((0:Int),(-1:Int),(1073741824:Int),(-1073741824:Int),(-1073741824:Int),(0:Int),(0:Int)) () h SF (a_.refl _) ?_;intro n a q h;refine aK<|aT<|aA Z<|aA Z<|gW (aD.fact 0 Z) Z<|cN Z<|aL ?_;refine dY h Z (λh=>?_) λh=>?_
  ·refine cD<|aK<|aS<|aK<|dQ (λb=>BE d a (bL (nE U f d) n) b=some r) (λb s=>[(0,vI (f)),(1,m),(5,vI (b)),(6,vI (a.2.1)),(7,vI (a.2.2.1)),(8,vI (a.2.2.2.1)),(9,vI (a.2.2.2.2.1)),(10,vI (a.2.2.2.2.2.1)),(11,vI (a.2.2.2.2.2.2))]) (λb s=>[]) ?_ ?_
   ·refine aT<|aA Z<|aA Z<|dB h λC h=>aC (aZ Z Z (aD.fact 0 Z) Z Z C) Z<|aC (bY Z (aD.fact 0 Z) Z Z Z eD C) Z<|kH Z<|aL ?_;refine dY h Z (λh=>?_) λh=>?_
    ·refine aO<|aA Z<|cB Z<|aB Z<|aL ?_;exact fE (wI .i64 (a.1+(1:Int))) () h SF Z
    refine cD ?_;exact fE (a.1) () h SF Z
   intro b s h;refine aK<|dQ (λe=>BF d a (bL (nE U f d) n) b e=some r) (λe t=>[(0,vI (f)),(1,m),(5,vI (b)),(6,vI (e)),(7,vI (a.2.2.1)),(8,vI (a.2.2.2.1)),(9,vI (a.2.2.2.2.1)),(10,vI (a.2.2.2.2.2.1)),(11,vI (a.2.2.2.2.2.2))]) (λe t=>[]) ?_ ?_
   ·refine aK<|dQ (λj=>BG d a (bL (nE U f d) n) b j=some r) (λj u=>[(0,vI (f)),(1,m),(5,vI (b)),(6,vI (a.2.1)),(7,vI (a.2.2.1)),(8,vI (a.2.2.2.1)),(9,vI (a.2.2.2.2.1)),(10,vI (a.2.2.2.2.2.1)),(11,vI (a.2.2.2.2.2.2)),(34,vB (j))]) (λj u=>[]) ?_ ?_
    ·refine aO<|aA Z<|aA Z<|dB h λB h=>aC (aZ Z Z (aD.fact 0 Z) Z Z B) Z<|aC (bY Z (aD.fact 0 Z) Z Z Z eD B) Z<|kH Z<|aA Z ?_;refine AP h Z (λ_ h=>?_) λ_ h=>?_
     ·refine cJ Z<|aQ Z (FK Z Z) Z<|dC Z<|aL ?_;exact fE (decide (a.2.1<(0:Int))) () h SF Z
     refine aH Z<|aH Z<|dR Z<|aL ?_;exact fE (false) () h SF Z
    intro j u h;refine tP h Z (λ_ h=>?_) λ_ h=>?_
    ·refine aO<|aA Z<|aB Z<|aL ?_;exact fE (a.2.2.2.2.2.2) () h SF Z
    refine cD ?_;exact fE (a.2.1) () h SF Z
   intro e t h;refine aT<|aA Z<|aA Z<|aA Z<|dB h λw h=>aC (aZ Z Z (aD.fact 0 Z) Z Z w) Z<|aC (bY Z (aD.fact 0 Z) Z Z Z eD w) Z<|aC (Mo Z Z) Z<|aB Z<|aL<|aT<|aA Z<|aA Z<|aA Z<|aA Z<|dB h λy h=>aC (aZ Z Z (aD.fact 0 Z) Z Z y) Z<|aC (bY Z (aD.fact 0 Z) Z Z Z eD y) Z<|aC (Mo Z Z) Z<|aC (FL Z Z) Z<|aB Z<|aL<|aT<|aA Z<|aA Z<|aA Z<|dB h λz h=>aC (aZ Z Z (aD.fact 0 Z) Z Z z) Z<|aC (bY Z (aD.fact 0 Z) Z Z Z eD z) Z<|aC (FL Z Z) Z<|aB Z<|aL<|aO<|aA Z<|aA Z<|aA Z<|dB h λA h=>aC (aZ Z Z (aD.fact 0 Z) Z Z A) Z<|aC (bY Z (aD.fact 0 Z) Z Z Z eD A) Z<|cB Z<|aB Z<|eM<|jE<|aO<|aA Z<|cB Z<|aB Z<|aL ?_;exact uG (b,e,(min a.2.2.1 (at' d a.2.2.2.2.2.2)),(max a.2.2.2.1 (at' d a.2.2.2.2.2.2)),(max a.2.2.2.2.1 (min a.2.2.2.1 (at' d a.2.2.2.2.2.2))),(wI .i64 (a.2.2.2.2.2.1+(at' d a.2.2.2.2.2.2))),(wI .i64 (a.2.2.2.2.2.2+(1:Int)))) () h SF Z
  refine eR ?_;exact fE (a.1,a.2.1,a.2.2.1,a.2.2.2.1,a.2.2.2.2.1,a.2.2.2.2.2.1) () h SF Z
 intro k L h;refine aK<|aT<|aA Z<|aL<|aS<|aT<|bU Z<|aB Z<|aL ?_;refine dY h Z (λh=>?_) λh=>?_
 ·refine aT<|aA Z<|aA Z<|gW (aD.fact 0 Z) Z<|bU Z<|dN h λD H h=>aG (zBi r_ (gC U  D H) Z .nil) Z λN=>aB Z<|aL<|aR<|bE<|aI ?_;cases h;exact gF Z
 refine aT<|bU Z<|aB Z<|aL ?_;refine dY h Z (λh=>?_) λh=>?_
 ·refine aT<|aA Z<|aC (tM Z Z) Z<|dN h λE I h=>aG (zBi r_ (gC U  E I) Z .nil) Z λO=>aB Z<|aL<|aR<|bE<|aI ?_;cases h;exact gF Z
 refine aT<|bU Z<|aB Z<|aL ?_;refine dY h Z (λh=>?_) λh=>?_
 ·refine aT<|aA Z<|aB Z<|aL<|aR<|bE<|aI ?_;cases h;exact gF Z
 refine aT<|bU Z<|aB Z<|aL ?_;refine dY h Z (λh=>?_) λh=>?_
 ·refine aT<|aA Z<|aB Z<|aL<|aR<|bE<|aI ?_;cases h;exact gF Z
 refine aT<|bU Z<|aB Z<|aL ?_;refine dY h Z (λh=>?_) λh=>?_
 ·refine aT<|aA Z<|aB Z<|aL<|aR<|bE<|aI ?_;cases h;exact gF Z
 refine aT<|bU Z<|aB Z<|aL ?_;refine dY h Z (λh=>?_) λh=>?_
 ·refine aT<|aA Z<|aB Z<|aL<|aR<|bE<|aI ?_;cases h;exact gF Z
 refine aT<|bU Z<|aB Z<|aL ?_;refine dY h Z (λh=>?_) λh=>?_
 ·refine aT<|aA Z<|dN h λF J h=>aG (zBi Vr (EK U  F J) Z .nil) Z λP=>aB Z<|aL<|aR<|bE<|aI ?_;cases h;exact gF Z
 refine aT<|bU Z<|aB Z<|aL ?_;refine dY h Z (λh=>?_) λh=>?_
 ·refine aT<|aA Z<|aB Z<|aL<|aR<|bE<|aI ?_;cases h;exact gF Z
 refine aT<|bU Z<|aB Z<|aL ?_;refine dY h Z (λh=>?_) λh=>?_
 ·refine aT<|aB Z<|aL<|aK<|dQ (λg=>BD  g=some r) (λg o=>[(12,vI (g))]) (λg o=>[]) ?_ ?_
  ·refine aS<|dZ (xH U d) (λi p=>[(1,m),(12,vI (i))]) (λi p=>[]) (0:Int) () h SF (a_.refl _) ?_;intro M i p h;refine aK<|aT<|aA Z<|aA Z<|dN h λG K h=>aG (zBi ab_ (NB U m G K) Z (jF [0] Z)) Z λQ=>aL ?_;refine tP h Z (λ_ h=>?_) λ_ h=>?_
   ·refine cD<|aS<|aO<|aA Z<|cB Z<|aB Z<|eM<|jE ?_;exact uG (wI .i64 (i+(1:Int))) () h SF Z
   refine eR ?_;exact fE (i) () h SF Z
  intro g o h;unfold BD at h;refine aT<|aA Z<|aB Z<|aL<|aR<|bE<|aI ?_;cases h;exact gF Z
 refine cU<|jE<|aK<|aT<|aA Z<|gW (aD.fact 0 Z) Z<|bU Z<|aL ?_;refine dY h Z (λh=>?_) λh=>?_
 ·refine aT<|aB Z<|aL<|aR<|aI ?_;cases h;exact gF Z
 refine cD<|aT<|aA Z<|dB h λv h=>aC (aZ Z Z (aD.fact 0 Z) Z Z v) Z<|aC (bY Z (aD.fact 0 Z) Z Z Z eD v) Z<|aB Z<|aL<|aR ?_;cases h;exact gF Z
def sR  (a:Bool):Option Bool:=
 some (a)
def oB (U:Nat) (a:Int):Option Bool:=
 if(-1073741824:Int)<=a then(sR  (decide (a<=(1073741824:Int))))else(sR  (false))
theorem LK:aU Tryz.prog 202:=Tryz.call202
theorem AM (U:Nat) {b:Int} (r:Bool) (h:oB U b=some r):
  aW Tryz.prog 202 #[vI (b)] [] (λx:Unit=>vB (r)) (λx l=>l) (λ_ l=>l):=by
 refine aW.of Tryz.func202 Z Tryz.ntmps202 Z λc=>?_;refine aT<|aB Z<|aL<|aK<|dQ (λa=>sR  a=some r) (λa d=>[(2,vB (a))]) (λa d=>[]) ?_ ?_
 ·refine aO<|aA Z<|aC (zJ Z Z) Z<|aA Z ?_;refine AP h Z (λ_ h=>?_) λ_ h=>?_
  ·refine cJ Z<|aQ Z (uE Z Z) Z<|dC Z<|aB Z<|aL ?_;exact fE (decide (b<=(1073741824:Int))) () h SF Z
  refine aH Z<|aH Z<|dR Z<|aB Z<|aL ?_;exact fE (false) () h SF Z
 intro a d h;unfold sR at h;refine aR ?_;cases h;exact gF Z
def AD (U:Nat) (c:Int) (a:Int) (b:Bool):Option fO:=
 if b=true then(some ((0:Int),(2:Int)))else(if c=(18:Int)then(some ((wI .i64 (0 - a)),(0:Int)))else(Option.bind (fH U (decide (a=(0:Int)))) λd=>(some (d,(0:Int)))))
def HW (U:Nat) (a:Int) (b:Int):Option fO:=
 if a≠(18:Int)then(if a≠(19:Int)then(AD U a b (true))else(Option.bind (oB U b) λc=>(AD U a b ((!c)))))else(Option.bind (oB U b) λd=>(AD U a b ((!d))))
theorem abQ:aU Tryz.prog 166:=Tryz.call166
theorem Of (U:Nat) {e:Int} {f:Int} (r:eV) (h:HW U e f=some r):
  aW Tryz.prog 166 #[vI (e),vI (f)] [] (λx:Unit=>Value.tuple #[vI (r.1),vI (r.2)]) (λx l=>l) (λ_ l=>l):=by
 refine aW.of Tryz.func166 Z Tryz.ntmps166 Z λc=>?_;refine aT<|aB Z<|aB Z<|aL<|aK<|aK<|dQ (λa=>AD U e f a=some r) (λa j=>[(0,vI (e)),(1,vI (f)),(16,vB (a))]) (λa j=>[]) ?_ ?_
 ·refine aO<|aA Z<|kH Z<|aA Z ?_;refine AP h Z (λ_ h=>?_) λ_ h=>?_
  ·refine cJ Z<|aQ Z (CW Z Z) Z<|dC Z<|aA Z ?_;refine AP h Z (λ_ h=>?_) λ_ h=>?_
   ·refine aH Z<|aH Z<|aH Z<|dC Z<|aL ?_;exact fE (true) () h SF Z
   refine cJ Z<|dN h λb g h=>iP Z (zBi LK (AM U  b g) Z .nil) Z λn=>aQ Z (jC Z) Z<|dR Z<|aL ?_;exact fE ((!b)) () h SF Z
  refine aH Z<|aH Z<|dR Z<|aA Z<|cJ Z<|dN h λd i h=>iP Z (zBi LK (AM U  d i) Z .nil) Z λo=>aQ Z (jC Z) Z<|dR Z<|aL ?_;exact fE ((!d)) () h SF Z
 intro a j h;refine tP h Z (λ_ h=>?_) λ_ h=>?_
 ·refine aT<|aB Z<|aB Z<|aL<|aR<|aI ?_;cases h;exact eW () Z Z (RV.tmp Z) (RV.tmp Z) (a_.refl _) aE.nil
 refine cD<|aK<|aT<|aA Z<|bU Z<|aL ?_;refine dY h Z (λh=>?_) λh=>?_
 ·refine aT<|aA Z<|aC (RZ Z) Z<|aB Z<|aB Z<|aL<|aR<|aI ?_;cases h;exact eW () Z Z (RV.tmp Z) (RV.tmp Z) (a_.refl _) aE.nil
 refine cD<|aT<|aA Z<|bU Z<|dN h λk m h=>aG (zBi r_ (gC U  k m) Z .nil) Z λp=>aB Z<|aB Z<|aL<|aR ?_;cases h;exact eW () Z Z (RV.tmp Z) (RV.tmp Z) (a_.refl _) aE.nil
def tV  (a:Int):Option (Int):=
 some (a)
def AG (a:Int) (b:Int) (c:Bool):Option (Int):=
 if c=true then(tV  (wI .i64 ((wI .i64 (Int.tdiv a b)) - (1:Int))))else(tV  (wI .i64 (Int.tdiv a b)))
def Bm (U:Nat) (b:Int) (a:Int):Option (Int):=
 if a=(0:Int)then(some (0:Int))else(ck (a≠0) (ck (a≠0) (if(Int.tmod b a)≠(0:Int)then(AG b a (((decide (b<(0:Int))) != (decide (a<(0:Int))))))else(AG b a (false)))))
theorem Vu:aU Tryz.prog 230:=Tryz.call230
theorem EL (U:Nat) {a:Int} {b:Int} (r:Int) (h:Bm U a b=some r):
  aW Tryz.prog 230 #[vI (a),vI (b)] [] (λx:Unit=>vI (r)) (λx l=>l) (λ_ l=>l):=by
 refine aW.of Tryz.func230 Z Tryz.ntmps230 Z λc=>?_;refine aT<|aB Z<|aL<|aK<|aT<|aA Z<|bU Z<|aL ?_;refine dY h Z (λh=>?_) λh=>?_
 ·refine aT<|aB Z<|aL<|aR<|aI ?_;cases h;exact gF Z
 refine cD<|aT<|aA Z<|aA Z<|dB h λj h=>aC (TY Z Z j) Z<|aB Z<|aL<|aK<|dQ (λd=>tV  d=some r) (λd g=>[(5,vI (d))]) (λd g=>[]) ?_ ?_
 ·refine aK<|dQ (λe=>AG a b e=some r) (λe i=>[(5,vI (wI .i64 (Int.tdiv a b))),(21,vB (e))]) (λe i=>[]) ?_ ?_
  ·refine aO<|aA Z<|aA Z<|dB h λf h=>aC (OA Z Z f) Z<|kH Z<|aA Z ?_;refine AP h Z (λ_ h=>?_) λ_ h=>?_
   ·refine cJ Z<|aQ Z (FK Z Z) Z<|cJ Z<|aQ Z (FK Z Z) Z<|aQ Z (Yq Z Z Z) Z<|dC Z<|aL ?_;exact fE (((decide (a<(0:Int))) != (decide (b<(0:Int))))) () h SF Z
   refine aH Z<|aH Z<|aH Z<|aH Z<|aH Z<|dR Z<|aL ?_;exact fE (false) () h SF Z
  intro e i h;refine tP h Z (λ_ h=>?_) λ_ h=>?_
  ·refine aO<|aA Z<|aC (mM Z Z) Z<|aB Z<|aL ?_;exact fE (wI .i64 ((wI .i64 (Int.tdiv a b)) - (1:Int))) () h SF Z
  refine cD ?_;exact fE (wI .i64 (Int.tdiv a b)) () h SF Z
 intro d g h;unfold tV at h;refine aT<|aA Z<|aB Z<|aL<|aR ?_;cases h;exact gF Z
end Go.Proofs.YtahgemjmgopleaaGreatDoor