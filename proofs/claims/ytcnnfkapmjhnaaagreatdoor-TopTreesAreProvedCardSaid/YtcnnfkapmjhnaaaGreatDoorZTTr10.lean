/- Models and proofs. Conditions: none. -/
import Derived.Test.YtcnnfkapmjhnaaaGreatDoorZTTr9
import Derived.Test.YtcnnfkapmjhnaaaGreatDoorZTTr2
import Derived.Test.YtcnnfkapmjhnaaaGreatDoorZTTr8
import Derived.Test.YtcnnfkapmjhnaaaGreatDoorZTTr5
set_option linter.unusedVariables false
set_option linter.unusedSimpArgs false
set_option maxHeartbeats 4000000
set_option maxRecDepth 20000
namespace Go.Proofs.YtcnnfkapmjhnaaaGreatDoor
open Go.Sx
def pG  (a:Unit):Option (Int):=
 some (-1:Int)
def lL (U:Nat) (a:JS) (d:bX) (e:Int) (b:Int) (c:(Int)->Option (Int)):Option (Int):=
 if b<(a.1.2.2.length:Int)then(Option.bind (lO U ((((a.2.1.1.1,a.2.1.1.2.1,a.2.1.1.2.2)),((a.2.1.2.1.1,a.2.1.2.1.2)),a.2.1.2.2.1,a.2.1.2.2.2)) d e b) λf=>(if f=true then(some (b))else(c (wI .i64 (b+(1:Int))))))else(pG  (()))
def fS (U:Nat) (a:JS) (b:bX) (c:Int):Option (Int):=
 bH (lL U a b c) U (0:Int)
theorem UV:aS Tryz.prog 230:=Tryz.call230
theorem Bc (U:Nat) {a:JS} {n:bX} {m:Int} (d:Nat)  (z:Value)  (A:Value)  (e:Nat)  (o:Value)  (p:Value)  (q:Value)  (s:Value)  (B:jO)  (t:Value)  (g:sY)  (f:Value)  (v:jO)  (b:Value)  (i:sY) (r:Int) (h:fS U a n m=some r):
  aY Tryz.prog 230 #[vP d,b,vI (m)] [bM d [vS (a.1.1),z,A,vP e,f] 151,Sl aX z a.1.2.1,Sl aM A a.1.2.2,bM e [vS (a.2.1.1.1),o,p,q,s,vI (a.2.1.2.2.1),t] 196,Sl aX o a.2.1.1.2.1,Sl aM p a.2.1.1.2.2,Sl bP q a.2.1.2.1.1,S2 aV s B a.2.1.2.1.2,S2 bP t g a.2.1.2.2.2,S2 aV f v a.2.2,S2 bP b i n] (λx:Unit=>vI (r)) (λx l=>l) (λ_ l=>l):=by
 refine aY.of Tryz.func230 Z Tryz.ntmps230 Z λc=>?_;unfold fS at h;refine aP<|aC Z<|aJ<|aK<|eJ (λj=>pG  j=some r) (λj w=>[]) (λj w=>[]) ?_ ?_
 ·refine aP<|aA Z<|aD (cF Z) Z<|bY Z<|bY Z<|aD (cY Z (aE.fact 0 Z) Z Z Z) Z<|gS (aE.fact 2 Z) Z<|aA Z<|aJ<|aR<|eO (lL U a n m) (λk y=>[(0,vP d),(1,b),(2,vI (m)),(13,vI (a.1.2.2.length:Int)),(14,vI (k))]) (λk y=>[]) (0:Int) () h SF (a_.refl _) ?_;intro E k y h;refine aP<|cO Z<|aJ<|aK ?_;refine dK h Z (λh=>?_) λh=>?_
  ·refine cG<|aK<|aR<|aP<|aA Z<|aC Z<|aJ<|aP<|aA Z<|aD (cF Z) Z<|bY Z<|aD (cY Z (aE.fact 0 Z) Z Z Z) Z<|aA Z<|aA Z<|aA Z<|dV h λC u h=>aG (zBb acf (EQ U e o p q s B t g b i C u) Z (kA [3,4,5,6,7,8,10] Z)) Z λD=>aJ ?_;refine yW h Z (λ_ h=>?_) λ_ h=>?_
   ·refine aP<|aA Z<|aC Z<|aJ<|aU<|bN<|aH<|aH<|bN<|aH ?_;cases h;exact kY Z
   refine dD<|lU<|aQ<|cH Z<|aA Z<|aJ ?_;exact AS (wI .i64 (k+(1:Int))) () h SF Z
  refine fL ?_;exact iH () (()) h SF Z
 intro j w h;unfold pG at h;refine aP<|aC Z<|aJ<|aU ?_;cases h;exact kY Z
def xH (d:Int) (a:eC) (b:Int) (c:Bool):Option (Int):=
 if c=true then(some (b))else(if d=(3:Int)then(some (-1:Int))else(if b<a.1 then(some (a.1))else(some (a.2))))
def zQ (U:Nat) (c:Int) (a:eC) (b:Int):Option (Int):=
 if a.1<=b then(xH c a b (decide (b<=a.2)))else(xH c a b (false))
theorem acg:aS Tryz.prog 262:=Tryz.call262
theorem MN (U:Nat) {e:Int} {a:eC} {d:Int} (r:Int) (h:zQ U e a d=some r):
  aY Tryz.prog 262 #[vI (e),Value.agg #[vI (a.1),vI (a.2)],vI (d)] [] (λx:Unit=>vI (r)) (λx l=>l) (λ_ l=>l):=by
 refine aY.of Tryz.func262 Z Tryz.ntmps262 Z λc=>?_;refine aP<|aG (aI.box (cs:=[vI (a.1),vI (a.2)]) Z Z) Z λf=>aC Z<|aJ<|aK<|aR<|aK<|eJ (λb=>xH e a d b=some r) (λb g=>[(0,vI (e)),(2,vI (d)),(4,vP f),(7,vB (b))]) (λb g=>[bM f [vI (a.1),vI (a.2)] 58]) ?_ ?_
 ·refine aQ<|aA Z ?_;refine aD (lP (i:=0) Z Z Z Z Z (by decide)) Z ?_;refine cR 0 Z<|aD (Bo Z Z) Z<|aA Z ?_;refine Eb h Z (λ_ h=>?_) λ_ h=>?_
  ·refine eG Z ?_;refine aW Z (lP (i:=1) Z Z Z Z Z (by decide)) Z ?_;refine aW Z (d_ 0 Z Z Z Z Z) Z<|aW Z (Dn Z Z) Z<|eK Z<|aC Z<|aJ ?_;exact iH (decide (d<=a.2)) () h SF Z
  refine aL Z<|aL Z<|aL Z<|aL Z<|fY Z<|aC Z<|aJ ?_;exact iH (false) () h SF Z
 intro b g h;refine yW h Z (λ_ h=>?_) λ_ h=>?_
 ·refine aP<|aA Z<|aC Z<|aJ<|aU<|bN<|aH ?_;cases h;exact sB Z
 refine aP<|aA Z<|bS Z<|aC Z<|aJ ?_;refine dK h Z (λh=>?_) λh=>?_
 ·refine aP<|aC Z<|aJ<|aU<|bN<|aH ?_;cases h;exact sB Z
 refine aP<|aA Z ?_;refine aD (lP (i:=0) Z Z Z Z Z (by decide)) Z ?_;refine cR 0 Z<|cO Z<|aC Z<|aJ ?_;refine dK h Z (λh=>?_) λh=>?_
 ·refine aP ?_;refine aD (lP (i:=0) Z Z Z Z Z (by decide)) Z ?_;refine cR 0 Z<|aC Z<|aJ<|aU<|bN<|aH ?_;cases h;exact sB Z
 refine dD<|lU<|aP ?_;refine aD (lP (i:=1) Z Z Z Z Z (by decide)) Z ?_;refine cR 0 Z<|aC Z<|aJ<|aU ?_;cases h;exact sB Z
def pF  (a:aO):Option aO:=
 some (a)
def lK (U:Nat) (b:JS) (h:bX) (d:Int) (c:Int) (a:lZ) (e:rZ->Option aO):Option aO:=
 if a.1<(((at' b.1.2.2 c).2.2.2).length:Int)then(ck (0<=a.1∧a.1<(((at' b.1.2.2 c).2.2.2).length:Int)) (Option.bind (gZ U ((((b.2.1.1.1,b.2.1.1.2.1,b.2.1.1.2.2)),((b.2.1.2.1.1,b.2.1.2.1.2)),b.2.1.2.2.1,b.2.1.2.2.2)) h d ((at' ((at' b.1.2.2 c).2.2.2) a.1).2.2)) λf=>(ck (0<=((at' ((at' b.1.2.2 c).2.2.2) a.1).1)∧((at' ((at' b.1.2.2 c).2.2.2) a.1).1)<(b.1.2.1.length:Int)) (ck (0<=d∧d<(b.2.2.length:Int)) (ck (0<=((at' ((at' b.1.2.2 c).2.2.2) a.1).1)∧((at' ((at' b.1.2.2 c).2.2.2) a.1).1)<((at' b.2.2 d).length:Int)) (Option.bind (zQ U ((at' b.1.2.1 ((at' ((at' b.1.2.2 c).2.2.2) a.1).1)).2.1) ((((at' (at' b.2.2 d) ((at' ((at' b.1.2.2 c).2.2.2) a.1).1)).1),((at' (at' b.2.2 d) ((at' ((at' b.1.2.2 c).2.2.2) a.1).1)).2))) f) λg=>(ck (0<=((at' ((at' b.1.2.2 c).2.2.2) a.1).1)∧((at' ((at' b.1.2.2 c).2.2.2) a.1).1)<(a.2.length:Int)) (e ((wI .i64 (a.1+(1:Int))),(List.set a.2 (Int.toNat ((at' ((at' b.1.2.2 c).2.2.2) a.1).1)) g))))))))))else(pF  (a.2))
def mO (U:Nat) (d:JS) (b:bX) (a:Int) (c:Int):Option aO:=
 ck (0<=a∧a<(b.length:Int)) (ck ((List.length ([]:aO):Int)+((at' b a).length:Int)<=1099511627) (ck (0<=c∧c<(d.1.2.2.length:Int)) (bH (lK U d b a c) U ((0:Int),(([]:aO)++(at' b a))))))
theorem ab_:aS Tryz.prog 232:=Tryz.call232
theorem FE (U:Nat) {b:JS} {C:bX} {m:Int} {f:Int} (j:Nat)  (O:Value)  (P:Value)  (k:Nat)  (E:Value)  (F:Value)  (G:Value)  (H:Value)  (Q:jO)  (I:Value)  (y:sY)  (w:Value)  (M:jO)  (i:Value)  (A:sY) (r:aO) (h:mO U b C m f=some r):
  aY Tryz.prog 232 #[vP j,i,vI (m),vI (f)] [bM j [vS (b.1.1),O,P,vP k,w] 151,Sl aX O b.1.2.1,Sl aM P b.1.2.2,bM k [vS (b.2.1.1.1),E,F,G,H,vI (b.2.1.2.2.1),I] 196,Sl aX E b.2.1.1.2.1,Sl aM F b.2.1.1.2.2,Sl bP G b.2.1.2.1.1,S2 aV H Q b.2.1.2.1.2,S2 bP I y b.2.1.2.2.2,S2 aV w M b.2.2,S2 bP i A C] (λx:Value=>x) (λx l=>Ar cB x r::l) (λ_ l=>l):=by
 refine aY.of Tryz.func232 Z Tryz.ntmps232 Z λc=>?_;refine aP<|aC Z<|aJ<|aP<|aA Z<|aA Z<|dQ h λB h=>aD (cV Z Z (aE.fact 10 Z) Z Z B) Z<|aD (cP Z (aE.fact 10 Z) Z Z B) Z<|jT (gK cB)<|dQ h λS h=>aG (iV 0 cD Z Z Z (zBd (aE.fact 10 Z) B.1 B.2) Z Z Z Z S Z) Z λv=>aC Z<|aJ<|aK<|eJ (λo=>pF  o=some r) (λo N=>[(9,v)]) (λo N=>[Ar cB v o]) ?_ ?_
 ·refine aP<|aA Z<|aD (cF Z) Z<|bY Z<|bY Z<|aD (cY Z (aE.fact 0 Z) Z Z Z) Z<|aA Z<|dQ h λg h=>aD (aZ Z Z (aE.fact 2 Z) Z Z g) Z<|aD (n_ Z Z Z Z Z) Z<|aD (mA Z (aE.fact 2 Z) Z Z Z Bw g) Z<|aD (fF Z (yK (aE.fact 2 Z) h_ g.1 g.2) Z) Z<|aA Z<|aJ<|aR<|eO (lK U b C m f) (λa p=>[(0,vP j),(1,i),(2,vI (m)),(9,v),(26,(at' b.1.2.2 f).2.2.1),(27,vI (((at' b.1.2.2 f).2.2.2).length:Int)),(28,vI (a.1))]) (λa p=>[Ar cB v a.2]) ((0:Int),(([]:aO)++(at' C m))) () h SF (a_.refl _) ?_;intro T a p h;refine aP<|cO Z<|aJ<|aK ?_;refine dK h Z (λh=>?_) λh=>?_
  ·refine cG<|aK<|aR<|aP<|dQ h λd h=>aD (aZ Z Z (yK (aE.fact 2 Z) h_ g.1 g.2) Z Z d) Z<|aD (To (cs:=[vI ((at' ((at' b.1.2.2 f).2.2.2) a.1).1),(at' ((at' b.1.2.2 f).2.2.2) a.1).2.1]) Z (yK (aE.fact 2 Z) h_ g.1 g.2) Nj Z Z Z Z d) Z<|aG (aI.alloc (cs:=[vI (0:Int),lE]) Z Z) Z λR=>dH (Know.one ((yK (yK (aE.fact 2 Z) h_ g.1 g.2) EB d.1 d.2))) λq=>bK 0 (vs:=[vI ((at' ((at' b.1.2.2 f).2.2.2) a.1).1),(at' ((at' b.1.2.2 f).2.2.2) a.1).2.1]) Z Z (eB Z (eB q Z)) Z Z Z<|aJ<|aK ?_;refine JR.start [0,1,3,7,0,0,0,64,255,511] 8 mixedOrders (by decide +kernel) ?_;refine zBe (by exact rfl) ?_;refine bA Z<|gO Z (cF Z)<|dJ Z<|bG Z .nil (hZ 0 Z) (cY Z (aE.fact 0 Z) Z Z Z) aN.z<|bA Z<|bA Z<|dJ Z<|fG 0 Z<|bR 8 Z Z<|dV h λD J h=>aG (zBb UY (An U k E F G H Q I y i A ((at' ((at' b.1.2.2 f).2.2.2) a.1).2.1) D J) Z (aB.cons (aE.fact 3 Z) (aB.cons (aE.fact 4 Z) (aB.cons (aE.fact 5 Z) (aB.cons (aE.fact 6 Z) (aB.cons (aE.fact 7 Z) (aB.cons (aE.fact 8 Z) (aB.cons (aE.fact 10 Z) (aB.cons (yK (yK (aE.fact 2 Z) h_ g.1 g.2) EB d.1 d.2) .nil))))))))) Z λV=>aC Z<|aJ ?_;refine JR.start [0,0,2,0,8,24,56,120,0,256,1016,2040,4088,0,8192,24576,57344,0,253952,516096,0,1048576,4186112,8380416,0,33554424,67108863,134217727] 26 mixedOrders (by decide +kernel) ?_;refine zBe (by exact rfl) ?_;refine bA Z<|dJ Z<|fG 0 Z<|bA Z<|gO Z (cF Z)<|dJ Z<|dJ Z<|bG Z .nil (hZ 0 Z) (cY Z (aE.fact 0 Z) Z Z Z) aN.z<|dJ Z<|fG 0 Z<|dQ h λs h=>bG Z .nil (hZ 1 Z) (aZ Z Z (aE.fact 0 Z) Z Z s) aN.z<|gO Z (n_ Z Z Z Z Z)<|bG Z .nil (hZ 1 Z) (mA Z (aE.fact 0 Z) Z Z Z Ak s) aN.z<|bA Z<|gO Z (cF Z)<|dJ Z<|bG Z .nil (hZ 0 Z) (cY Z (aE.fact 0 Z) Z Z Z) aN.z<|bA Z<|dQ h λe h=>bG Z .nil (hZ 9 Z) (cV Z Z (aE.fact 0 Z) Z Z e) aN.z<|bG Z .nil (hZ 9 Z) (cP Z (aE.fact 0 Z) Z Z e) aN.z<|dJ Z<|fG 0 Z<|dQ h λt h=>bG Z .nil (hZ 9 Z) (aZ Z Z (zBd (aE.fact 0 Z) e.1 e.2) Z Z t) aN.z<|bG Z .nil (hZ 9 Z) (eM (cs:=[vI ((at' (at' b.2.2 m) ((at' ((at' b.1.2.2 f).2.2.2) a.1).1)).1),vI ((at' (at' b.2.2 m) ((at' ((at' b.1.2.2 f).2.2.2) a.1).1)).2)]) Z (zBd (aE.fact 0 Z) e.1 e.2) bD Z Z Z Z t) aN.z<|bA Z<|dV h λn K h=>zBc Z Z Z (zBb acg (MN U  n K) Z .nil) Z (λL=>(jD [([0],[])] Z)) λL=>bR 26 Z Z<|dQ h λu h=>aD (aZ Z Z (aT (aE.res 1 Z) cD) Z Z u) Z<|t_ 1 n u Z Z Z Z Z Z Z<|eV<|lU<|aQ<|cH Z<|aA Z<|aJ ?_;exact kO ((wI .i64 (a.1+(1:Int))),(List.set a.2 (Int.toNat ((at' ((at' b.1.2.2 f).2.2.2) a.1).1)) n)) () h SF (a_.ix [1] Z Z) (aB.refl _ _)
  refine fL ?_;exact iH (a.2) () h SF Z
 intro o N h;unfold pF at h;refine aP<|aA Z<|aC Z<|aJ<|aU ?_;cases h;exact eR (v) Z Z (RV.tmp Z) (a_.refl _) aB.nil
def pH  (a:bX):Option bX:=
 some (a)
def lM (b:Int×bX) (a:(Int×bX)->Option bX) (c:bX):Option bX:=
 a ((wI .i64 (b.1+(1:Int))),c)
def jC (U:Nat) (b:JS) (d:bX) (g:Int) (a:Int×bX) (c:(Int×bX)->Option bX):Option bX:=
 if a.1<(d.length:Int)then(ck (0<=a.1) (if(eW .u32 (sG .u32 g a.1) (1:Int))=(1:Int)then(Option.bind (fS U ((((b.1.1,b.1.2.1,b.1.2.2)),((((b.2.1.1.1,b.2.1.1.2.1,b.2.1.1.2.2)),((b.2.1.2.1.1,b.2.1.2.1.2)),b.2.1.2.2.1,b.2.1.2.2.2)),b.2.2)) d a.1) λe=>(Option.bind (mO U ((((b.1.1,b.1.2.1,b.1.2.2)),((((b.2.1.1.1,b.2.1.1.2.1,b.2.1.1.2.2)),((b.2.1.2.1.1,b.2.1.2.1.2)),b.2.1.2.2.1,b.2.1.2.2.2)),b.2.2)) d a.1 e) λf=>(ck (0<=a.1∧a.1<(a.2.length:Int)) (lM a c (List.set a.2 (Int.toNat a.1) f)))))else(lM a c (a.2))))else(pH  (a.2))
def kF (U:Nat) (b:JS) (a:bX) (c:Int):Option bX:=
 Option.bind (wT U a) λd=>(bH (jC U b a c) U ((0:Int),d))
theorem abP:aS Tryz.prog 188:=Tryz.call188
theorem FG (U:Nat) {e:JS} {v:bX} {w:Int} (g:Nat)  (D:Value)  (E:Value)  (o:Nat)  (F:Value)  (G:Value)  (H:Value)  (I:Value)  (Q:jO)  (J:Value)  (t:sY)  (p:Value)  (u:jO)  (d:Value)  (q:sY) (r:bX) (h:kF U e v w=some r):
  aY Tryz.prog 188 #[vP g,d,vU (w)] [bM g [vS (e.1.1),D,E,vP o,p] 151,Sl aX D e.1.2.1,Sl aM E e.1.2.2,bM o [vS (e.2.1.1.1),F,G,H,I,vI (e.2.1.2.2.1),J] 196,Sl aX F e.2.1.1.2.1,Sl aM G e.2.1.1.2.2,Sl bP H e.2.1.2.1.1,S2 aV I Q e.2.1.2.1.2,S2 bP J t e.2.1.2.2.2,S2 aV p u e.2.2,S2 bP d q v] (λx:Value×List Value=>x.1) (λx l=>Ar fQ.raw x.1 x.2::nH cB x.2 r::l) (λ_ l=>l):=by
 refine aY.of Tryz.func188 Z Tryz.ntmps188 Z λc=>?_;refine aP<|aC Z<|aJ<|aP<|aA Z<|dV h λR S h=>aG (zBb UQ (Ha U d q R S) Z (kA [10] Z)) Z λs=>aC Z<|aJ<|aK<|El (B:=jB) (λy=>pH  y=some r) (λy z=>[(7,s.1)]) (λy z=>[Ar fQ.raw s.1 z,nH cB z y]) ?_ ?_
 ·refine aP<|aA Z<|aD (jW Z (aE.fact 10 Z) Z) Z<|aA Z<|aJ<|aR<|eO (B:=jB) (jC U e v w) (λa b=>[(0,vP g),(1,d),(2,vU (w)),(7,s.1),(12,vI (v.length:Int)),(13,vI (a.1))]) (λa b=>[Ar fQ.raw s.1 b,nH cB b a.2]) ((0:Int),R) (s.2) h SF (a_.refl _) ?_;intro L a b h;refine aP<|cO Z<|aJ<|aK ?_;refine dK h Z (λh=>?_) λh=>?_
  ·refine cG<|aK<|El (B:=jB) (λf=>lM a (bH (jC U e v w) L) f=some r) (λf m=>[(0,vP g),(1,d),(2,vU (w)),(7,s.1),(12,vI (v.length:Int)),(13,vI (a.1))]) (λf m=>[Ar fQ.raw s.1 m,nH cB m f]) ?_ ?_
   ·refine aR<|aP<|aA Z<|aC Z<|aJ<|aP<|aA Z<|aA Z<|dQ h λK h=>aD (NM Z Z K) Z<|Bt Z<|bS Z<|aJ ?_;refine dK h Z (λh=>?_) λh=>?_
    ·refine aQ<|aA Z<|aA Z<|aA Z<|aA Z<|aA Z<|aA Z<|aA Z<|aA Z<|dV h λM N h=>aG (zBb UV (Bc U g D E o F G H I Q J t p u d q M N) Z (kA [0,1,2,3,4,5,6,7,8,9,10] Z)) Z λT=>dV h λC O h=>aG (zBb ab_ (FE U g D E o F G H I Q J t p u d q C O) Z (kA [0,1,2,3,4,5,6,7,8,9,10] Z)) Z λP=>dQ h λn h=>aD (cV Z Z (bE (i:=1) (j:=2) Z Z cD) Z Z n) Z<|dH (Know.one ((aT (aE.res 0 Z) cD))) λA=>jT (As (k:=a.1) 2 0 Z Z Z n) ?_;refine sE 0 1 ⟨n.1,by first|exact n.2|simpa using n.2⟩ Z Z Z Z Z (by simp) A Z ?_;refine eV<|lU ?_;exact iH (List.set a.2 (Int.toNat a.1) C) (List.set b (Int.toNat a.1) P) h SF Z
    refine dD<|lU ?_;exact iH (a.2) (b) h SF Z
   intro f m h;unfold lM at h;refine aQ<|cH Z<|aA Z<|aJ ?_;exact AS ((wI .i64 (a.1+(1:Int))),f) (m) h SF Z
  refine fL ?_;exact iH (a.2) (b) h SF Z
 intro y z h;unfold pH at h;refine aP<|aA Z<|aC Z<|aJ<|aU ?_;cases h;exact eR (s.1,z) Z Z (RV.tmp Z) (a_.refl _) aB.nil
def AN  (a:Int):Option (Int):=
 some (a)
def xA (c:eC) (b:gW->Option (Int)) (a:Int):Option (Int):=
 b (a,(wI .i64 (c.2+(1:Int))))
def tH (e:Int) (d:Int->Option Bool) (a:eC) (b:gW->Option (Int)):Option (Int):=
 if a.2<e then(Option.bind (d a.2) λc=>(if c=true then(ck (0<=a.2) (xA a b (Nk .u32 a.1 (CZ .u32 (1:Int) a.2))))else(xA a b (a.1))))else(AN  (a.1))
def BD (U:Nat) (b:Int) (a:Int->Option Bool):Option (Int):=
 bH (tH b a) U ((0:Int),(0:Int))
theorem abX:aS Tryz.prog 228:=Tryz.call228
theorem Qg (U:Nat) {j:Int} {n:Int->Option Bool} (m:FuncId) (d:jB) (k:List bF) (f:aS Tryz.prog m) (g:∀(u:Int) (r:Bool),n u=some r->aY Tryz.prog m ([vI (u)]++d).toArray k (λ_:Unit=>vB (r)) (λ_ l=>l) (λ_ l=>l)) (r:Int) (h:BD U j n=some r):
  aY Tryz.prog 228 #[vI (j),Value.func (.func m) #[] (d).toArray] ([]++k) (λx:Unit=>vU (r)) (λx l=>l) (λ_ l=>l):=by
 refine aY.of Tryz.func228 Z Tryz.ntmps228 Z λc=>?_;unfold BD at h;refine aP<|aC Z<|aJ<|aP<|aC Z<|aJ<|aK<|Hh (B:=Unit) (λi=>AN  i=some r) (λi o=>[(5,vU (i))]) (λi o=>[]) (λi o=>([]++k)) ?_ ?_
 ·refine aP<|aA Z<|aA Z<|aJ<|aR<|KL (B:=Unit) (tH j n) (λb p=>[(1,Value.func (.func m) #[] (d).toArray),(5,vU (b.1)),(7,vI (j)),(8,vI (b.2))]) (λb p=>[]) (λb p=>([]++k)) ((0:Int),(0:Int)) () h SF (a_.refl _) (aB.refl _ _) ?_;intro v b p h;refine aP<|cO Z<|aJ<|aK ?_;refine dK h Z (λh=>?_) λh=>?_
  ·refine cG<|aK<|Hh (B:=Unit) (λa=>xA b (bH (tH j n) v) a=some r) (λa e=>[(1,Value.func (.func m) #[] (d).toArray),(5,vU (a)),(7,vI (j)),(8,vI (b.2))]) (λa e=>[]) (λa e=>([]++k)) ?_ ?_
   ·refine aR<|aP<|aA Z<|aC Z<|aJ<|aP<|aA Z<|aA Z<|dV h λs t h=>aG (i_ (vs:=[vI (b.2)]) (cs:=d) f Z (g b.2 s t) Z (aB.tail _) (λ_ _=>rfl)) Z λw=>aJ ?_;refine yW h Z (λ_ h=>?_) λ_ h=>?_
    ·refine aQ<|aA Z<|aA Z<|dQ h λq h=>aD (NL Z Z q) Z<|aD (Yg Z Z) Z<|aC Z<|eV<|lU ?_;exact iH (Nk .u32 b.1 (CZ .u32 (1:Int) b.2)) () h SF Z
    refine dD<|lU ?_;exact iH (b.1) () h SF Z
   intro a e h;unfold xA at h;refine aQ<|cH Z<|aA Z<|aJ ?_;exact AS (a,(wI .i64 (b.2+(1:Int)))) () h SF Z
  refine fL ?_;exact iH (b.1) () h SF Z
 intro i o h;unfold AN at h;refine aP<|aA Z<|aC Z<|aJ<|aU ?_;cases h;exact kY Z
def lH (U:Nat) (b:Int) (a:JS) (c:bX):Option Bool:=
 Option.bind (fS U ((((a.1.1,a.1.2.1,a.1.2.2)),((((a.2.1.1.1,a.2.1.1.2.1,a.2.1.1.2.2)),((a.2.1.2.1.1,a.2.1.2.1.2)),a.2.1.2.2.1,a.2.1.2.2.2)),a.2.2)) c b) λd=>(some (decide ((0:Int)<=d)))
theorem abY:aS Tryz.prog 229:=Tryz.call229
theorem Cw (U:Nat) {v:Int} {a:JS} {w:bX} (j:Nat)  (d:Nat)  (o:Value)  (p:Value)  (e:Nat)  (q:Value)  (s:Value)  (t:Value)  (u:Value)  (y:jO)  (f:Value)  (k:sY)  (g:Value)  (m:jO)  (b:Nat)  (i:Value)  (n:sY) (r:Bool) (h:lH U v a w=some r):
  aY Tryz.prog 229 #[vI (v),vP j,vP b] [bM j [vP d] 65,bM d [vS (a.1.1),o,p,vP e,g] 151,Sl aX o a.1.2.1,Sl aM p a.1.2.2,bM e [vS (a.2.1.1.1),q,s,t,u,vI (a.2.1.2.2.1),f] 196,Sl aX q a.2.1.1.2.1,Sl aM s a.2.1.1.2.2,Sl bP t a.2.1.2.1.1,S2 aV u y a.2.1.2.1.2,S2 bP f k a.2.1.2.2.2,S2 aV g m a.2.2,bM b [i] 32,S2 bP i n w] (λx:Unit=>vB (r)) (λx l=>l) (λ_ l=>l):=by
 refine aY.of Tryz.func229 Z Tryz.ntmps229 Z λc=>?_;refine aP<|aC Z<|aJ<|aP<|aD (cY Z (aE.fact 0 Z) Z Z Z) Z<|aD (cY Z (aE.fact 11 Z) Z Z Z) Z<|aA Z<|dV h λz A h=>aG (zBb UV (Bc U d o p e q s t u y f k g m i n z A) Z (kA [1,2,3,4,5,6,7,8,9,10,12] Z)) Z λB=>aD (Bo Z Z) Z<|aC Z<|aJ<|aU ?_;cases h;exact kY Z
def fE (U:Nat) (a:JS) (b:bX):Option (Int):=
 Option.bind (BD U (a.2.2.length:Int) (λd=>lH U d ((((a.1.1,a.1.2.1,a.1.2.2)),((((a.2.1.1.1,a.2.1.1.2.1,a.2.1.1.2.2)),((a.2.1.2.1.1,a.2.1.2.1.2)),a.2.1.2.2.1,a.2.1.2.2.2)),a.2.2)) b)) λc=>(some (c))
theorem UR:aS Tryz.prog 185:=Tryz.call185
theorem yT (U:Nat) {a:JS} {w:bX} (b:Nat)  (k:Value)  (m:Value)  (e:Nat)  (n:Value)  (o:Value)  (p:Value)  (q:Value)  (y:jO)  (s:Value)  (g:sY)  (f:Value)  (i:jO)  (d:Value)  (j:sY) (r:Int) (h:fE U a w=some r):
  aY Tryz.prog 185 #[vP b,d] [bM b [vS (a.1.1),k,m,vP e,f] 151,Sl aX k a.1.2.1,Sl aM m a.1.2.2,bM e [vS (a.2.1.1.1),n,o,p,q,vI (a.2.1.2.2.1),s] 196,Sl aX n a.2.1.1.2.1,Sl aM o a.2.1.1.2.2,Sl bP p a.2.1.2.1.1,S2 aV q y a.2.1.2.1.2,S2 bP s g a.2.1.2.2.2,S2 aV f i a.2.2,S2 bP d j w] (λx:Unit=>vU (r)) (λx l=>l) (λ_ l=>l):=by
 refine aY.of Tryz.func185 Z Tryz.ntmps185 Z λc=>?_;refine aP<|aG (aI.box (cs:=[vP b]) Z Z) Z λt=>dH (Know.one (aE.sl (aE.fact 10 Z))) λv=>?_;refine aG (aI.box (cs:=[d]) Z (by rw[kX v])) Z λu=>?_;refine aC Z<|aJ<|aP<|cR 1 Z<|aD (cF Z) Z<|bY Z<|aD (cY Z (aE.fact 0 Z) Z Z Z) Z<|aD (jW Z (aE.fact 9 Z) Z) Z<|aD (gX (cs:=[.tmp 2,.tmp 3]) (vs:=[vP t,vP u]) Z) Z<|dV h λz A h=>aG (zBb abX (Qg U 229 [vP t,vP u] [bM t [vP b] 65,bM b [vS (a.1.1),k,m,vP e,f] 151,Sl aX k a.1.2.1,Sl aM m a.1.2.2,bM e [vS (a.2.1.1.1),n,o,p,q,vI (a.2.1.2.2.1),s] 196,Sl aX n a.2.1.1.2.1,Sl aM o a.2.1.1.2.2,Sl bP p a.2.1.2.1.1,S2 aV q y a.2.1.2.1.2,S2 bP s g a.2.1.2.2.2,S2 aV f i a.2.2,bM u [d] 32,S2 bP d j w] abY (λC r h=>Cw U t b k m e n o p q y s g f i u d j r h) z A) Z (aB.cons (aE.res 1 Z) (aB.cons (aE.fact 0 Z) (aB.cons (aE.fact 1 Z) (aB.cons (aE.fact 2 Z) (aB.cons (aE.fact 3 Z) (aB.cons (aE.fact 4 Z) (aB.cons (aE.fact 5 Z) (aB.cons (aE.fact 6 Z) (aB.cons (aE.fact 7 Z) (aB.cons (aE.fact 8 Z) (aB.cons (aE.fact 9 Z) (aB.cons (aE.res 0 Z) (kA [10] Z)))))))))))))) Z λB=>aC Z<|aJ<|aU ?_;cases h;exact sB Z
end Go.Proofs.YtcnnfkapmjhnaaaGreatDoor
namespace Go.Proofs.YtcnnfkapmjhnaaaGreatDoor
open Go Go.Sx
abbrev RL:=E×List (Nat×E)
abbrev Dm:=Ap×GR×Int×bX
def Gv (R:List RL):Nb:=R.map λr=>(r.1.ts,r.2.map λs=>((s.1:Int),s.2.ts))
def NW (a:Nat) (e:E):Bool:=e.wf a false&&decide (e.depth<=100)&&decide (e.ts.length<=800)
def wL (a:Nat) (R:List RL):Bool:=decide (R.length<=20)&&R.all λr=>NW a r.1&&decide (r.2.length<=20)&&r.2.all λs=>decide (s.1<a)&&NW a s.2
instance:Inhabited E:=⟨.lf 1 0⟩
def UG (g:GR) (v i:Nat):Int:=En (row g (fU (row g v) i).1.toNat) (v:Int)
def gR (g:GR):bX:=(List.range g.2.length).map λv=>(List.range (row g v).length).map (UG g v)
def iF (S:Dm) (c:bX) (v:Nat) (e:E):Int:=e.den (Vv (S,c,(v:Int),[])) (row S.2.1 v).length (-1)
def Am (S:Dm) (R:List RL) (c:bX) (v:Nat):Int:=iL (R.map λr=>iF S c v r.1)
def DX (a:Int) (b:eC) (x:Int):Int:=if b.1<=x∧x<=b.2 then x else if a=3 then -1 else if x<b.1 then b.1 else b.2
def Xl (S:Dm) (a:List Gu) (c:bX) (v:Nat) (b:aO) (s:Nat×E):aO:=b.set s.1 (DX (at' a (s.1:Int)).2.1 (LQ S.2.1 a v s.1) (iF S c v s.2))
def ED (S:Dm) (a:List Gu) (R:List RL) (c:bX) (v:Nat) (i:Int):aO:=(at' R i).2.foldl (Xl S a c v) (at' c (v:Int))
def Rc (S:Dm) (R:List RL) (c:bX):Nat:=yR (λv=>decide (0<=Am S R c v)) S.2.1.2.length
def kU (S:Dm) (a:List Gu) (R:List RL) (c:bX) (t:Nat):bX:=(List.range c.length).map λv=>if t.testBit v=true then ED S a R c v (Am S R c v)else at' c (v:Int)
structure yL (g:GR) (nv:Nat) (c:bX):Prop where
 len:c.length=g.2.length
 row:∀v:Nat,v<g.2.length->(at' c (v:Int)).length=nv
theorem HU.shape {g:GR} {c:bX} {a:List Gu} (h:HU g c a):yL g a.length c:=⟨h.len,h.row⟩
section
variable {S:Dm} {nv:Nat} {c:List (List Int)} {v:Nat}
theorem wok (b:S.2.2.2=gR S.2.1) (d:VG S.2.1) (e:yL S.2.1 nv c) (h:v<S.2.1.2.length) (j:List (Int×Int)):WOk (S,c,(v:Int),j) nv S.2.1.2.length v:=by
 refine⟨rfl,h,rfl,d.len,e.len,e.row,λu a i g=> ?_,by show S.2.2.2.length=_;rw[b];simp[gR],λu a=>by
  show(at' S.2.2.2 (u:Int)).length=_;rw[b,gR,DC _ a,List.length_map,List.length_range]⟩
 obtain⟨w,k,f⟩:=d.to a g;show 0<=(fU (row S.2.1 u) i).1∧(fU (row S.2.1 u) i).1<_;rw[f];omega
theorem SG (i:S.2.2.2=gR S.2.1) (a:VG S.2.1) (j:yL S.2.1 nv c) (f:v<S.2.1.2.length) {e:E} (b:NW nv e=true):gZ 1000 S c (v:Int) e.ts=some (iF S c v e):=by
 simp only[NW,zA4,zA1]at b;have g:=a.n24;have d:=(a.node v f).deg;unfold gZ;have:=aaM (wok i a j f e.ts) (deg:=(row S.2.1 v).length) Z (by omega) b.2 e false 1000 0 (-1) [] [] (by simp) Z b.1.1 (λh=>by cases h) (by omega);rw[bB (show bZ 1000 _ (0:Int) (-1)=_ from this)];rfl
end
section
variable {p:Ap} {g:GR} {gr:Int} {R:List RL} {nv:Nat} {c:List (List Int)} {v:Nat}
theorem IB (a:p.2.2.map uF=Gv R):p.2.2.length=R.length:=by simpa [Gv]using congrArg List.length a
theorem VC (b:p.2.2.map uF=Gv R) {i:Nat} (a:i<R.length):uF (at' p.2.2 (i:Int))=((at' R (i:Int)).1.ts,(at' R (i:Int)).2.map λs=>((s.1:Int),s.2.ts)):=by
 have d:=IB b;have:=congrArg (λq=>q[i]?) b;simp only[Gv,List.getElem?_map,zA0 a,zA0 (show i<p.2.2.length by omega),Option.map_some,Option.some.injEq]at this;rw[lD a,lD (show i<p.2.2.length by omega)];exact this
theorem VL (a:wL nv R=true) {i:Nat} (b:i<R.length):NW nv (at' R (i:Int)).1=true∧(at' R (i:Int)).2.length<=20∧∀s∈(at' R (i:Int)).2,s.1<nv∧NW nv s.2=true:=by
 simp only[wL,zA4,zA5,zA1]at a;have:=a.2 (at' R (i:Int)) (by rw[lD b];exact List.getElem_mem b);exact⟨this.1.1,this.1.2,λs d=>this.2 s d⟩
theorem adv (a:wL nv R=true):R.length<=20:=by
 simp only[wL,zA4,zA1]at a;exact a.1
theorem Ze (f:VG g) (h:yL g nv c) (j:v<g.2.length) (b:p.2.2.map uF=Gv R) (d:wL nv R=true) {i:Nat} (a:i<R.length):lO 1000 (p,g,gr,gR g) c (v:Int) (i:Int)=some (nz (iF (p,g,gr,gR g) c v (at' R (i:Int)).1)):=by
 have k:=IB b;have e:(at' p.2.2 (i:Int)).2.1.2=(at' R (i:Int)).1.ts:=congrArg Prod.fst (VC b a);unfold lO;dsimp only;rw[cK (by omega),e];rw[bB (show gZ 1000 _ c (v:Int) _=_ from SG (S:=(p,g,gr,gR g)) Z f h j (VL d a).1)];rfl
theorem VN (z:VG g) (A:yL g nv c) (C:v<g.2.length) (w:p.2.2.map uF=Gv R) (s:wL nv R=true) (h:List (List (Int×Int))):fS 1000 (p,(p,g,gr,gR g),h) c (v:Int)=some (Am (p,g,gr,gR g) R c v):=by
 have E:=IB w;have y:=adv s;let l:=R.map λr=>iF (p,g,gr,gR g) c v r.1;have B:l.length=R.length:=by simp[l]
 have o:∀i,i<R.length->at' l (i:Int)=iF (p,g,gr,gR g) c v (at' R (i:Int)).1:=λi t=>by
  rw[lD (by omega),lD t];simp[l]
 have b:∀(k:Nat) a,k<R.length->lL 1000 (p,(p,g,gr,gR g),h) c (v:Int) (k:Int) a=if nz (at' l (k:Int))=true then some (k:Int)else a (((k+1:Nat):Int)):=by
  intro k a d;unfold lL;dsimp only;rw[if_pos (by omega),bB (show lO 1000 _ c (v:Int) (k:Int)=_ from Ze z A C w s d),o k d,dL (by omega)]
 unfold fS Am;by_cases f:∃i,i<R.length∧at' l (i:Int)≠0
 ·obtain⟨i,t,x⟩:=f;obtain⟨m,D,q,n⟩:=Ro (p:=λi=>at' l (i:Int)≠0) i x;have n:∀j,j<m->at' l (j:Int)=0:=λj u=>Decidable.not_not.1 (n j u);rw[show iL _=(m:Int)from AV (l:=l) (by omega) q n];exact fM (K:=some (m:Int)) m (λk=>(k:Int)) (λk a d=>by rw[b k a (by omega),if_neg (by simp[nz,n k d])]) (λa=>by rw[b m a (by omega),if_pos (by simpa [nz]using q)]) 1000 (by omega)
 ·have f:∀j,j<l.length->at' l (j:Int)=0:=λj u=>Decidable.not_not.1 λe=>f ⟨j,by omega,e⟩;rw[show iL _=(-1:Int)from Fu (l:=l) f];exact fM (K:=some (-1)) R.length (λk=>(k:Int)) (λk a d=>by rw[b k a d,if_neg (by simp[nz,f k (by omega)])]) (λa=>by
   unfold lL pG;dsimp only;rw[if_neg (by omega)]) 1000 (by omega)
theorem Sb (S:Dm) (R:List RL) (c:List (List Int)) (v:Nat):Am S R c v = -1∨∃i:Nat,Am S R c v=(i:Int)∧i<R.length∧iF S c v (at' R (i:Int)).1≠0:=by
 let l:=R.map λr=>iF S c v r.1;by_cases h:∃i,i<l.length∧at' l (i:Int)≠0
 ·obtain⟨i,n,k⟩:=h;obtain⟨m,o,f,a⟩:=Ro (p:=λi=>at' l (i:Int)≠0) i k;have a:∀j,j<m->at' l (j:Int)=0:=λj b=>Decidable.not_not.1 (a j b);have d:m<R.length:=by simp[l]at n;omega
  refine .inr ⟨m,AV (l:=l) (by omega) f a,d,?_⟩;have:at' l (m:Int)=iF S c v (at' R (m:Int)).1:=by rw[lD (by simpa [l]using d),lD d];simp[l]
  rw[<-this];exact f
 ·exact .inl (Fu (l:=l) λj b=>Decidable.not_not.1 λe=>h ⟨j,b,e⟩)
theorem TF (hV:VG g) (hc:yL g nv c) (hz:p.2.2.map uF=Gv R) (hR:wL nv R=true) {tab:List (List (Int×Int))} (ht:tab.length=g.2.length):fE 1000 (p,(p,g,gr,gR g),tab) c=some ((Rc (p,g,gr,gR g) R c:Nat):Int):=by
 have h24:=hV.n24;unfold fE BD;let q:Nat->Bool:=λv=>decide (0<=Am (p,g,gr,gR g) R c v);have:=fM (step:=tH (tab.length:Int) (λy0=>lH 1000 y0 (p,(p,g,gr,gR g),tab) c)) (K:=some ((yR q g.2.length:Nat):Int)) g.2.length (λk=>(((yR q k:Nat):Int),(k:Int))) (λk ag hk=>by
  have hm:=PH q (k:=k) (by omega);unfold tH xA lH;dsimp only;rw[if_pos (by omega),bB (show Option.bind (fS 1000 _ c (k:Int)) _=some (q k) by rw[bB (show fS 1000 _ c (k:Int)=_ from VN hV hc hk hz hR tab)]),dL (by omega)];cases hq:q k with
  |true=>
   rw[if_pos Z,cK (by omega),LG hm (by omega)];simp only[yR,hq,if_true]
  |false=>
   rw[if_neg (by decide)];simp only[yR,hq];rfl) (λag=>by
  unfold tH AN;dsimp only;rw[if_neg (by omega)]) 1000 (by omega)
 rw[bB (show bH _ 1000 ((0:Int),(0:Int))=_ from this)];rfl
end
theorem Yx (f:Nat) (k:Int) (b:eC) (x:Int):zQ f k b x=some (DX k b x):=by
 unfold zQ xH DX;by_cases a:b.1<=x
 ·by_cases c:x<=b.2
  ·simp only[a,c,and_self,if_true,decide_true]
  ·simp only[a,c,and_false,if_true,if_false,decide_false,Bool.false_eq_true];split
   ·rfl
   ·split<;>rfl
 ·simp only[a,false_and,if_false,Bool.false_eq_true];split
  ·rfl
  ·split<;>rfl
theorem Sj {S:Dm} {a:List Gu} {c:bX} {v:Nat} (l:List (Nat×E)) (b:aO):(l.foldl (Xl S a c v) b).length=b.length:=by
 induction l generalizing b with
 |nil=>rfl
 |cons s l d=>rw[List.foldl_cons,d];simp[Xl]
theorem W_ {S:Dm} {a:List Gu} {R:List RL} {c:bX} {v:Nat} {i:Int}:(ED S a R c v i).length=(at' c (v:Int)).length:=Sj _ _
section
variable {p:Ap} {g:GR} {gr:Int} {R:List RL} {c:List (List Int)} {v:Nat}
theorem adg (A:VG g) (J:CW g p.2.1) (o:yL g p.2.1.length c) (x:v<g.2.length) (E:p.2.2.map uF=Gv R) (H:wL p.2.1.length R=true) {i:Nat} (B:i<R.length):
  mO 1000 (p,(p,g,gr,gR g),Ey g p.2.1) c (v:Int) (i:Int)=some (ED (p,g,gr,gR g) p.2.1 R c v (i:Int)):=by
 have G:=A.n24;have I:=o.len;have l:=o.row v x;have N:=J.len;have O:=IB E;have r:=VC E B;obtain⟨-,m,d⟩:=VL H B;have D:(Ey g p.2.1).length=g.2.length:=by simp[Ey]
 have w:at' (Ey g p.2.1) (v:Int)=GB g p.2.1 v:=DC _ x;have L:(GB g p.2.1 v).length=p.2.1.length:=by simp[GB]
 have y:(at' p.2.2 (i:Int)).2.2.2.map (λs=>(s.1,s.2.2))=(at' R (i:Int)).2.map λs=>((s.1:Int),s.2.ts):=congrArg Prod.snd r;have n:(at' p.2.2 (i:Int)).2.2.2.length=(at' R (i:Int)).2.length:=by simpa using congrArg List.length y
 unfold mO;dsimp only;rw[cK (by omega),cK (by simp;omega),cK (by omega),List.nil_append];unfold ED;let a:=(at' R (i:Int)).2;have:=fM (step:=lK 1000 (p,(p,g,gr,gR g),Ey g p.2.1) c (v:Int) (i:Int)) (K:=some (a.foldl (Xl (p,g,gr,gR g) p.2.1 c v) (at' c (v:Int)))) a.length (λk=>((k:Int),(a.take k).foldl (Xl (p,g,gr,gR g) p.2.1 c v) (at' c (v:Int)))) (λk F e=>by
  have j:k<(at' p.2.2 (i:Int)).2.2.2.length:=by rw[n];exact e
  have z:((at' (at' p.2.2 (i:Int)).2.2.2 (k:Int)).1,(at' (at' p.2.2 (i:Int)).2.2.2 (k:Int)).2.2)=(((at' a (k:Int)).1:Int),(at' a (k:Int)).2.ts):=by
   have:=congrArg (λq=>q[k]?) y;simp only[List.getElem?_map,zA0 j,zA0 (show k<(at' R (i:Int)).2.length from e),Option.map_some,Option.some.injEq]at this;rw[lD j,lD e];exact this
  have f:=congrArg Prod.fst z;have h:=congrArg Prod.snd z;dsimp only at f h;obtain⟨t,u⟩:=d (at' a (k:Int)) (by rw[lD e];exact List.getElem_mem e);have C:((a.take k).foldl (Xl (p,g,gr,gR g) p.2.1 c v) (at' c (v:Int))).length=p.2.1.length:=by rw[Sj,l]
  have b:at' (GB g p.2.1 v) ((at' a (k:Int)).1:Int)=LQ g p.2.1 v (at' a (k:Int)).1:=DC _ t;have M:a.length<=20:=m;unfold lK;dsimp only;rw[if_pos (by omega),cK (by omega),f,h,bB (show gZ 1000 _ c (v:Int) _=_ from SG (S:=(p,g,gr,gR g)) Z A o x u),cK (by omega),cK (by omega),w,cK (by omega),b,bB (Yx 1000 _ _ _),cK (by omega),dL (by omega),zAc,Gp e,List.foldl_append];rfl) (λF=>by
  unfold lK pF;dsimp only;rw[if_neg (by show¬(a.length:Int)<_;rw[n];exact Int.lt_irrefl _),List.take_length]) 1000 (by show(at' R (i:Int)).2.length<1000;omega)
 exact this
theorem adD (m:VG g) (s:CW g p.2.1) (l:yL g p.2.1.length c) (u:p.2.2.map uF=Gv R) (o:wL p.2.1.length R=true) {t:Nat} (b:t<4294967296) (B:∀v,t.testBit v=true->0<=Am (p,g,gr,gR g) R c v):
  kF 1000 (p,(p,g,gr,gR g),Ey g p.2.1) c (t:Int)=some (kU (p,g,gr,gR g) p.2.1 R c t):=by
 have x:=m.n24;have z:=l.len;have C:=s.len;unfold kF;rw[bB (Vf c (by omega) (λv D=>by rw[l.row v (by omega)];omega))];let f:Nat->List Int:=λv=>if t.testBit v=true then ED (p,g,gr,gR g) p.2.1 R c v (Am (p,g,gr,gR g) R c v)else at' c (v:Int);let Q:Nat->List (List Int):=λk=>(List.range k).map f++c.drop k;have y:∀k,k<=c.length->(Q k).length=c.length:=λk a=>by simp[Q];omega
 have j:∀k,k<c.length->(Q k).set k (f k)=Q (k+1):=λk a=>by
  show((List.range k).map f++c.drop k).set k (f k)=(List.range (k+1)).map f++c.drop (k+1);rw[List.set_append_right _ _ (by simp),List.length_map,List.length_range,Nat.sub_self,List.drop_eq_getElem_cons a,List.set_cons_zero,List.range_succ,List.map_append,List.map_singleton,zB9];rfl
 have d:∀k,k<c.length->f k=at' c (k:Int)->Q k=Q (k+1):=λk a A=>by
  show(List.range k).map f++c.drop k=(List.range (k+1)).map f++c.drop (k+1);rw[List.range_succ,List.drop_eq_getElem_cons a,List.map_append,List.map_singleton,A,lD a];simp
 rw[show c=Q 0 by simp[Q]];refine fM (step:=jC 1000 (p,(p,g,gr,gR g),Ey g p.2.1) (Q 0) (t:Int)) (K:=some (kU (p,g,gr,gR g) p.2.1 R (Q 0) t)) c.length (λk=>((k:Int),Q k)) (λk w a=> ?_) (λw=> ?_) 1000 (by omega)
 ·rw[show Q 0=c by simp[Q]];unfold jC lM;dsimp only;rw[if_pos (by omega),cK (by omega),dL (by omega)];by_cases h:t.testBit k=true
  ·obtain⟨i,r,n,_⟩:=(Sb (p,g,gr,gR g) R c k).resolve_left (λe=>by have:=B k h;omega);rw[if_pos ((Zf (by omega) b).2 h),bB (show fS 1000 _ c (k:Int)=_ from VN m l (by omega) u o _),r,bB (show mO 1000 _ c (k:Int) (i:Int)=_ from adg m s l (by omega) u o n),cK (by rw[y k (by omega)];omega),zAc];have:ED (p,g,gr,gR g) p.2.1 R c k (i:Int)=f k:=by simp only[f];rw[if_pos h,r]
   rw[this,j k a]
  ·rw[if_neg (λq=>h ((Zf (by omega) b).1 q)),d k a (by simp only[f];rw[if_neg h])]
 ·rw[show Q 0=c by simp[Q]];unfold jC pH;dsimp only;rw[if_neg (by omega)];simp[Q,kU,f]
theorem On {S:Dm} {a:List Gu} {t:Nat}:(kU S a R c t).length=c.length:=by simp[kU]
theorem ML {S:Dm} {a:List Gu} {t:Nat} (b:v<c.length):at' (kU S a R c t) (v:Int)=if t.testBit v=true then ED S a R c v (Am S R c v)else at' c (v:Int):=DC _ b
theorem yL.step {S:Dm} {a:List Gu} {t:Nat} {e:Nat} {g:GR} (b:yL g e c):yL g e (kU S a R c t):=⟨by rw[On,b.len],λv d=>by
 rw[ML (by rw[b.len];exact d)];split
 ·rw[W_,b.row v d]
 ·exact b.row v d⟩
end
end Go.Proofs.YtcnnfkapmjhnaaaGreatDoor
namespace Go.Proofs.YtcnnfkapmjhnaaaGreatDoor
open Go.Sx
def iP (U:Nat) (a:Int):Option (Int):=
 ck (0<=(24:Int)) (ck (0<=(sG .u32 a (24:Int))∧(sG .u32 a (24:Int))<(IY.length:Int)) (ck (0<=(16:Int)) (ck (0<=(eW .u32 (sG .u32 a (16:Int)) (255:Int))∧(eW .u32 (sG .u32 a (16:Int)) (255:Int))<(IY.length:Int)) (ck (0<=(8:Int)) (ck (0<=(eW .u32 (sG .u32 a (8:Int)) (255:Int))∧(eW .u32 (sG .u32 a (8:Int)) (255:Int))<(IY.length:Int)) (ck (0<=(eW .u32 a (255:Int))∧(eW .u32 a (255:Int))<(IY.length:Int)) (some (wI .i64 (wI .u8 ((wI .u8 ((wI .u8 ((at' IY (sG .u32 a (24:Int)))+(at' IY (eW .u32 (sG .u32 a (16:Int)) (255:Int)))))+(at' IY (eW .u32 (sG .u32 a (8:Int)) (255:Int)))))+(at' IY (eW .u32 a (255:Int)))))))))))))
theorem abG:aS Tryz.prog 152:=Tryz.call152
theorem HE (U:Nat) {a:Int} (r:Int) (h:iP U a=some r):
  aY Tryz.prog 152 #[vU (a)] [] (λx:Unit=>vI (r)) (λx l=>l) (λ_ l=>l):=by
 refine aY.of Tryz.func152 Z Tryz.ntmps152 Z λc=>?_;refine aP<|aC Z<|aJ<|aK ?_;refine JR.start [0,1,3,0,8,24,56,127,0,256,768,1792,4095,0,8192,24576,65535,131071,262143] 16 mixedOrders (by decide +kernel) ?_;refine zBe (by exact rfl) ?_;refine bA Z<|dQ h λb h=>gO Z (NM Z Z b)<|dQ h λd h=>gO Z (DV Z Z Z Pa d)<|bA Z<|dQ h λe h=>gO Z (NM Z Z e)<|gO Z (UA Z Z)<|dQ h λf h=>gO Z (DV Z Z Z Pa f)<|gO Z (yE Z Z)<|bA Z<|dQ h λg h=>gO Z (NM Z Z g)<|gO Z (UA Z Z)<|dQ h λi h=>gO Z (DV Z Z Z Pa i)<|gO Z (yE Z Z)<|bA Z<|gO Z (UA Z Z)<|dQ h λj h=>gO Z (DV Z Z Z Pa j)<|bR 16 Z Z<|cH Z<|aD (Tn Z Z Z) Z<|aC Z<|aJ<|aU ?_;cases h;exact kY Z
def nK  (a:Unit):Option Bool:=
 some (true)
def iY (c:aO) (a:Int) (b:(Int)->Option Bool):Option Bool:=
 if a<(c.length:Int)then(ck (0<=a∧a<(c.length:Int)) (if(xF .u32 (at' c a) (16777215:Int))≠(0:Int)then(some (false))else(b (wI .i64 (a+(1:Int))))))else(nK  (()))
def iO (U:Nat) (a:aO):Option Bool:=
 bH (iY a) U (0:Int)
theorem UW:aS Tryz.prog 234:=Tryz.call234
theorem Cj (U:Nat) {d:aO} (e:Value) (r:Bool) (h:iO U d=some r):
  aY Tryz.prog 234 #[e] [Sl DO e d] (λx:Unit=>vB (r)) (λx l=>l) (λ_ l=>l):=by
 refine aY.of Tryz.func234 Z Tryz.ntmps234 Z λc=>?_;unfold iO at h;refine aP<|aC Z<|aJ<|aK<|eJ (λa=>nK  a=some r) (λa f=>[]) (λa f=>[]) ?_ ?_
 ·refine aP<|aA Z<|gS (aE.fact 0 Z) Z<|aA Z<|aJ<|aR<|eO (iY d) (λb g=>[(5,e),(6,vI (d.length:Int)),(7,vI (b))]) (λb g=>[]) (0:Int) () h SF (a_.refl _) ?_;intro j b g h;refine aP<|cO Z<|aJ<|aK ?_;refine dK h Z (λh=>?_) λh=>?_
  ·refine cG<|aK<|aR<|aP<|dQ h λi h=>aD (aZ Z Z (aE.fact 0 Z) Z Z i) Z<|aD (bV Z (aE.fact 0 Z) Z Z Z Je i) Z<|aC Z<|aJ<|aP<|aA Z<|aD (LA Z Z) Z<|pC Z<|aJ ?_;refine dK h Z (λh=>?_) λh=>?_
   ·refine aP<|aC Z<|aJ<|aU<|bN<|aH<|aH<|bN<|aH ?_;cases h;exact kY Z
   refine dD<|lU<|aQ<|cH Z<|aA Z<|aJ ?_;exact AS (wI .i64 (b+(1:Int))) () h SF Z
  refine fL ?_;exact iH () (()) h SF Z
 intro a f h;unfold nK at h;refine aP<|aC Z<|aJ<|aU ?_;cases h;exact kY Z
def lQ  (a:Bool):Option Bool:=
 some (a)
def iW (U:Nat) (a:He) (c:Bool):Option Bool:=
 if c=true then(some (false))else(if(wI .i64 (a.2.2.1+(1:Int)))<a.2.2.2.1 then(some (false))else(if a.1<=a.2.1 then(if a.2.1<=(wI .i64 ((24:Int)*a.1))then(Option.bind (iO U ([a.2.2.2.2])) λb=>(lQ  (b)))else(lQ  (false)))else(lQ  (false))))
def jQ (U:Nat) (a:He):Option Bool:=
 if a.1<(0:Int)then(iW U a (true))else(if(4096:Int)<a.1 then(iW U a (true))else(if a.2.2.1<(0:Int)then(iW U a (true))else(if a.2.2.2.1<a.2.2.1 then(iW U a (true))else(iW U a (decide (a.1<a.2.2.2.1))))))
theorem aca:aS Tryz.prog 233:=Tryz.call233
theorem KA (U:Nat) {a:He} (r:Bool) (h:jQ U a=some r):
  aY Tryz.prog 233 #[Value.agg #[vI (a.1),vI (a.2.1),vI (a.2.2.1),vI (a.2.2.2.1),vU (a.2.2.2.2)]] [] (λx:Unit=>vB (r)) (λx l=>l) (λ_ l=>l):=by
 refine aY.of Tryz.func233 Z Tryz.ntmps233 Z λc=>?_;refine aP<|aG (aI.box (cs:=[vI (a.1),vI (a.2.1),vI (a.2.2.1),vI (a.2.2.2.1),vU (a.2.2.2.2)]) Z Z) Z λj=>aC Z<|aJ<|aK<|aK<|eJ (λb=>iW U a b=some r) (λb k=>[(1,vP j),(29,vB (b))]) (λb k=>[bM j [vI (a.1),vI (a.2.1),vI (a.2.2.1),vI (a.2.2.2.1),vU (a.2.2.2.2)] 35]) ?_ ?_
 ·refine aQ<|bY Z<|cR 0 Z<|cO Z<|aA Z ?_;refine Eb h Z (λ_ h=>?_) λ_ h=>?_
  ·refine aL Z<|aL Z<|aL Z<|eK Z<|aA Z<|aL Z<|aL Z<|aL Z<|eK Z<|aA Z<|aL Z<|aL Z<|aL Z<|aL Z<|aL Z<|eK Z<|aA Z<|aL Z<|aL Z<|aL Z<|aL Z<|aL Z<|eK Z<|aJ ?_;exact iH (true) () h SF Z
  refine aW Z (eI Z Z Z Z Z) Z<|aW Z (d_ 0 Z Z Z Z Z) Z<|aW Z (Bp Z Z) Z<|fY Z<|aA Z ?_;refine Eb h Z (λ_ h=>?_) λ_ h=>?_
  ·refine aL Z<|aL Z<|aL Z<|eK Z<|aA Z<|aL Z<|aL Z<|aL Z<|aL Z<|aL Z<|eK Z<|aA Z<|aL Z<|aL Z<|aL Z<|aL Z<|aL Z<|eK Z<|aJ ?_;exact iH (true) () h SF Z
  refine aW Z (eI Z Z Z Z Z) Z<|aW Z (d_ 0 Z Z Z Z Z) Z<|aW Z (GN Z Z) Z<|fY Z<|aA Z ?_;refine Eb h Z (λ_ h=>?_) λ_ h=>?_
  ·refine aL Z<|aL Z<|aL Z<|aL Z<|aL Z<|eK Z<|aA Z<|aL Z<|aL Z<|aL Z<|aL Z<|aL Z<|eK Z<|aJ ?_;exact iH (true) () h SF Z
  refine aW Z (eI Z Z Z Z Z) Z<|aW Z (d_ 0 Z Z Z Z Z) Z<|aW Z (eI Z Z Z Z Z) Z<|aW Z (d_ 0 Z Z Z Z Z) Z<|aW Z (Bp Z Z) Z<|fY Z<|aA Z ?_;refine Eb h Z (λ_ h=>?_) λ_ h=>?_
  ·refine aL Z<|aL Z<|aL Z<|aL Z<|aL Z<|eK Z<|aJ ?_;exact iH (true) () h SF Z
  refine aW Z (eI Z Z Z Z Z) Z<|aW Z (d_ 0 Z Z Z Z Z) Z<|aW Z (eI Z Z Z Z Z) Z<|aW Z (d_ 0 Z Z Z Z Z) Z<|aW Z (Bp Z Z) Z<|fY Z<|aJ ?_;exact iH (decide (a.1<a.2.2.2.1)) () h SF Z
 intro b k h;refine yW h Z (λ_ h=>?_) λ_ h=>?_
 ·refine aP<|aC Z<|aJ<|aU<|aH ?_;cases h;exact sB Z
 refine cG<|aK<|aP<|bY Z<|cR 0 Z<|bY Z<|cR 0 Z<|cH Z<|aD (Bp Z Z) Z<|aJ ?_;refine dK h Z (λh=>?_) λh=>?_
 ·refine aP<|aC Z<|aJ<|aU<|aH ?_;cases h;exact sB Z
 refine cG<|aK<|eJ (λd=>lQ  d=some r) (λd m=>[(2,vB (d))]) (λd m=>[]) ?_ ?_
 ·refine aQ<|bY Z<|cR 0 Z<|bY Z<|cR 0 Z<|aD (Dn Z Z) Z<|aA Z ?_;refine Eb h Z (λ_ h=>?_) λ_ h=>?_
  ·refine aW Z (eI Z Z Z Z Z) Z<|aW Z (d_ 0 Z Z Z Z Z) Z<|aW Z (eI Z Z Z Z Z) Z<|aW Z (d_ 0 Z Z Z Z Z) Z<|aW Z (zA Z Z) Z<|aW Z (Dn Z Z) Z<|eK Z<|aA Z ?_;refine Eb h Z (λ_ h=>?_) λ_ h=>?_
   ·refine aW Z (eI Z Z Z Z Z) Z<|aW Z (d_ 0 Z Z Z Z Z) Z<|nN Z (cQ (e:=pX) ([a.2.2.2.2]) [(0,vU (a.2.2.2.2))] Z Z Z Z (rK (vU (a.2.2.2.2)) Z) Z Z Z) Z λg=>dV h λf i h=>nN Z (zBb UW (Cj U g f i) Z (aB.cons (aT (aE.res 0 Z) mU) .nil)) Z λn=>eK Z<|aC Z<|aJ ?_;exact bW (f) () h SF .nil (aB.refl _ _)
   refine aL Z<|aL Z<|aL Z<|aL Z<|fY Z<|aC Z<|aJ ?_;exact bW (false) () h SF .nil (aB.refl _ _)
  refine aL Z<|aL Z<|aL Z<|aL Z<|aL Z<|aL Z<|fY Z<|aA Z<|aL Z<|aL Z<|aL Z<|aL Z<|fY Z<|aC Z<|aJ ?_;exact bW (false) () h SF .nil (aB.refl _ _)
 intro d m h;unfold lQ at h;refine aU ?_;cases h;exact kY Z
def oJ (b:He) (c:Int) (a:eC):Option ((Int×Int×Int×Int×Int)×Int):=
 some ((((wI .i64 (b.1+(1:Int))),(wI .i64 (b.2.1+c)),a.1,(wI .i64 (b.2.2.1+(1:Int))),a.2)),(0:Int))
def oI (U:Nat) (a:He) (c:Int) (d:Int) (e:Bool):Option ((Int×Int×Int×Int×Int)×Int):=
 if e=true then(some ((((0:Int),(0:Int),(0:Int),(0:Int),(0:Int))),(11:Int)))else(if a.1=(4096:Int)then(some ((((0:Int),(0:Int),(0:Int),(0:Int),(0:Int))),(3:Int)))else(Option.bind (iP U c) λb=>(if(eW .u32 (xF .u32 a.2.2.2.2 c) d)=(0:Int)then(oJ a b ((wI .i64 (a.2.2.1+(1:Int))),d))else(oJ a b (a.2.2.1,(eW .u32 (xF .u32 a.2.2.2.2 c) d))))))
def jH (U:Nat) (a:He) (b:Int) (c:Int):Option ((Int×Int×Int×Int×Int)×Int):=
 Option.bind (jQ U ((a.1,a.2.1,a.2.2.1,a.2.2.2.1,a.2.2.2.2))) λe=>(if(!e)=true then(some ((((0:Int),(0:Int),(0:Int),(0:Int),(0:Int))),(7:Int)))else(if b=(0:Int)then(oI U a b c (true))else(Option.bind (iO U ([b,c])) λd=>(oI U a b c ((!d))))))
theorem abQ:aS Tryz.prog 189:=Tryz.call189
theorem Np (U:Nat) {a:He} {g:Int} {d:Int} (r:(Int×Int×Int×Int×Int)×Int) (h:jH U a g d=some r):
  aY Tryz.prog 189 #[Value.agg #[vI (a.1),vI (a.2.1),vI (a.2.2.1),vI (a.2.2.2.1),vU (a.2.2.2.2)],vU (g),vU (d)] [] (λx:Unit=>Value.tuple #[Value.agg #[vI (r.1.1),vI (r.1.2.1),vI (r.1.2.2.1),vI (r.1.2.2.2.1),vU (r.1.2.2.2.2)],vI (r.2)]) (λx l=>l) (λ_ l=>l):=by
 refine aY.of Tryz.func189 Z Tryz.ntmps189 Z λc=>?_;refine aP<|aG (aI.box (cs:=[vI (a.1),vI (a.2.1),vI (a.2.2.1),vI (a.2.2.2.1),vU (a.2.2.2.2)]) Z Z) Z λm=>aG (aI.alloc (cs:=vD3) Z Z) Z λn=>aC Z<|aJ<|aK<|aP<|cA 1 Z<|dV h λu v h=>aG (zBb aca (KA U  u v) Z .nil) Z λz=>aD (kB Z) Z<|aJ ?_;refine yW h Z (λ_ h=>?_) λ_ h=>?_
 ·refine aP ?_;refine aD (Fc (r:=Value.agg #[vI (0:Int),vI (0:Int),vI (0:Int),vI (0:Int),vU (0:Int)]) (by intro w;simp[Instr.build,Instr.fill,dX,dA,cM,dY,dZ,dB,eQ])) Z ?_;refine bK 0 (vs:=vD3) Z Z Z Z Z Z<|aC Z<|aJ<|aU<|aH ?_;cases h;exact iG () Z Z (RV.cell 0 Z Z Z Z) (RV.tmp Z) .nil aB.nil
 refine cG<|aK<|aK<|eJ (λi=>oI U a g d i=some r) (λi t=>[(1,vU (g)),(2,vU (d)),(3,vP m),(6,vP n),(20,vB (i))]) (λi t=>[bM n vD3 35,bM m [vI (a.1),vI (a.2.1),vI (a.2.2.1),vI (a.2.2.2.1),vU (a.2.2.2.2)] 35]) ?_ ?_
 ·refine aQ<|aA Z<|bS Z<|aA Z ?_;refine Eb h Z (λ_ h=>?_) λ_ h=>?_
  ·refine aL Z<|aL Z<|aL Z<|aL Z<|aL Z<|eK Z<|aJ ?_;exact iH (true) () h SF Z
  refine eG Z<|eG Z<|nN Z (cQ (e:=pX) ([g,d]) [(0,vU (g)),(1,vU (d))] Z Z Z Z (Ft (vU (g)) (vU (d)) Z Z) Z Z Z) Z λo=>dV h λk q h=>nN Z (zBb UW (Cj U o k q) Z (aB.cons (aT (aE.res 0 Z) mU) .nil)) Z λy=>aW Z (kB Z) Z<|fY Z<|aJ ?_;exact bW ((!k)) () h SF (a_.ix [1,2] Z Z) (aB.refl _ _)
 intro i t h;refine yW h Z (λ_ h=>?_) λ_ h=>?_
 ·refine aP ?_;refine aD (Fc (r:=Value.agg #[vI (0:Int),vI (0:Int),vI (0:Int),vI (0:Int),vU (0:Int)]) (by intro w;simp[Instr.build,Instr.fill,dX,dA,cM,dY,dZ,dB,eQ])) Z ?_;refine bK 0 (vs:=vD3) Z Z Z Z Z Z<|aC Z<|aJ<|aU<|aH ?_;cases h;exact iG () Z Z (RV.cell 0 Z Z Z Z) (RV.tmp Z) .nil aB.nil
 refine cG<|aK<|aP<|bY Z<|cR 1 Z<|bS Z<|aJ ?_;refine dK h Z (λh=>?_) λh=>?_
 ·refine aP ?_;refine aD (Fc (r:=Value.agg #[vI (0:Int),vI (0:Int),vI (0:Int),vI (0:Int),vU (0:Int)]) (by intro w;simp[Instr.build,Instr.fill,dX,dA,cM,dY,dZ,dB,eQ])) Z ?_;refine bK 0 (vs:=vD3) Z Z Z Z Z Z<|aC Z<|aJ<|aU<|aH ?_;cases h;exact iG () Z Z (RV.cell 0 Z Z Z Z) (RV.tmp Z) .nil aB.nil
 refine cG<|aP<|bY Z<|cR 1 Z<|cH Z<|bY Z<|fK 1 Z Z Z Z Z Z<|aJ<|aK ?_;refine JR.start [0,1,0,4,15,31,63] 4 mixedOrders (by decide +kernel) ?_;refine zBe (by exact rfl) ?_;refine dJ Z<|fG 1 Z<|bA Z<|dV h λf p h=>zBc Z Z Z (zBb abG (HE U  f p) Z .nil) Z (λs=>(jD [([1],[])] Z)) λs=>bR 4 Z Z<|cH Z<|bY Z<|fK 1 Z Z Z Z Z Z<|aJ<|aP<|bY Z<|cR 1 Z<|cH Z<|bY Z<|fK 1 Z Z Z Z Z Z<|aJ<|aP<|bY Z<|cR 1 Z<|aA Z<|aD (LA Z Z) Z<|aA Z<|Bt Z<|bY Z<|fK 1 Z Z Z Z Z Z<|aJ<|aK<|eJ (λb=>oJ a f b=some r) (λb j=>[(3,vP m),(6,vP n)]) (λb j=>[bM n vD3 35,bM m [vI (wI .i64 (a.1+(1:Int))),vI (wI .i64 (a.2.1+f)),vI (b.1),vI (wI .i64 (a.2.2.1+(1:Int))),vU (b.2)] 35]) ?_ ?_
 ·refine aP<|bY Z<|cR 1 Z<|bS Z<|aJ ?_;refine dK h Z (λh=>?_) λh=>?_
  ·refine aP<|bY Z<|cR 1 Z<|bY Z<|fK 1 Z Z Z Z Z Z<|aJ<|aQ<|aA Z<|bY Z<|fK 1 Z Z Z Z Z Z<|aJ ?_;exact iH ((wI .i64 (a.2.2.1+(1:Int))),d) () h SF Z
  refine cG ?_;exact iH (a.2.2.1,(eW .u32 (xF .u32 a.2.2.2.2 g) d)) () h SF Z
 intro b j h;unfold oJ at h;refine aP<|cA 1 Z<|bK 0 (vs:=[vI (wI .i64 (a.1+(1:Int))),vI (wI .i64 (a.2.1+f)),vI (b.1),vI (wI .i64 (a.2.2.1+(1:Int))),vU (b.2)]) Z Z Z Z Z Z<|aC Z<|aJ<|aU ?_;cases h;exact iG () Z Z (RV.cell 0 Z Z Z Z) (RV.tmp Z) .nil aB.nil
end Go.Proofs.YtcnnfkapmjhnaaaGreatDoor
namespace Go.Proofs.YtcnnfkapmjhnaaaGreatDoor
open Go Go.Sx
abbrev CT:=He
theorem GX (l:aO) (h:l.length<=900):∃b,iO 1000 l=some b:=by
 unfold iO;have:=vJ (step:=iY l) (Q:=λ_:Bool=>True) (λi:Int=>∃k:Nat,i=(k:Int)∧k<=l.length) (λi=>l.length - i.toNat) (λi f c a=>by
  obtain⟨k,rfl,g⟩:=c;unfold iY nK;by_cases e:k<l.length
  ·rw[if_pos (by omega),cK (by omega)];split
   ·exact⟨_,rfl,trivial⟩
   ·rw[dL (by omega)];exact a _ ⟨k+1,rfl,by omega⟩ (by omega)
  ·rw[if_neg (by omega)];exact⟨_,rfl,trivial⟩) 1000 0 ⟨0,rfl,by omega⟩ (by omega)
 obtain⟨b,d,_⟩:=this;exact⟨b,d⟩
theorem ON (k:CT):∃b,jQ 1000 k=some b:=by
 obtain⟨q,d⟩:=GX [k.2.2.2.2] (by simp);have c:∀a,∃b,iW 1000 k a=some b:=by
  intro a;unfold iW lQ;split
  ·exact⟨_,rfl⟩
  ·split
   ·exact⟨_,rfl⟩
   ·split
    ·split
     ·rw[bB d];exact⟨_,rfl⟩
     ·exact⟨_,rfl⟩
    ·exact⟨_,rfl⟩
 unfold jQ
 repeat' split
 all_goals exact c _
theorem Xc {t:Nat} (i:t<4294967296):∃n,iP 1000 (t:Int)=some n:=by
 have g:(IY.length:Int)=256:=by decide +kernel
 have b:∀a:Nat,a<4294967296->0<=eW .u32 (a:Int) 255∧eW .u32 (a:Int) 255<256:=λa f=>by
  rw[show(255:Int)=((255:Nat):Int)from rfl,CJ f (by omega)];have:a &&& 255<=255:=Nat.and_le_right;omega
 have c:∀k:Nat,k<32->sG .u32 (t:Int) (k:Int)=((t / 2^k:Nat):Int):=λk h=>KU h;have e:sG .u32 (t:Int) 24=((t / 2^24:Nat):Int):=c 24 (by omega);have d:sG .u32 (t:Int) 16=((t / 2^16:Nat):Int):=c 16 (by omega);have j:sG .u32 (t:Int) 8=((t / 2^8:Nat):Int):=c 8 (by omega);unfold iP;rw[g,e,d,j,cK (by decide),cK (by omega),cK (by decide),cK (b _ (by omega)),cK (by decide),cK (b _ (by omega)),cK (b _ i)];exact⟨_,rfl⟩
theorem Yh (k:CT) {t:Nat} (h:t<4294967296) (e:Int):∃r,jH 1000 k (t:Int) e=some r:=by
 obtain⟨b,d⟩:=ON k;obtain⟨q,g⟩:=GX [(t:Int),e] (by simp);obtain⟨n,f⟩:=Xc h;have c:∀a,∃r,oI 1000 k (t:Int) e a=some r:=by
  intro a;unfold oI oJ;split
  ·exact⟨_,rfl⟩
  ·split
   ·exact⟨_,rfl⟩
   ·rw[bB f];split<;>exact⟨_,rfl⟩
 unfold jH;rw[bB (show jQ 1000 _=some b from d)];split
 ·exact⟨_,rfl⟩
 ·split
  ·exact c _
  ·rw[bB g];exact c _
def bO (p:Ap) (g:GR):Dm:=(p,g,lY g g.2.length,gR g)
def Dh (S:Dm) (R:List RL) (a:Nat) (c:bX):Nat:=Rc S R c &&& a
theorem Pm (S:Dm) (R:List RL) (c:bX) (v:Nat):(Rc S R c).testBit v=(decide (v<S.2.1.2.length)&&decide (0<=Am S R c v)):=Gg _ v _
theorem Pn (S:Dm) (R:List RL) (a:Nat) (c:bX) (v:Nat):(Dh S R a c).testBit v=true↔v<S.2.1.2.length∧0<=Am S R c v∧a.testBit v=true:=by
 unfold Dh;rw[Nat.testBit_and,Pm,zA4,zA4,zA1,zA1,and_assoc]
theorem afr {S:Dm} (a:VG S.2.1) (R:List RL) (c:bX):Rc S R c<4294967296:=PH _ (by have:=a.n24;omega)
theorem TE (S:Dm) (R:List RL) (a:Nat) (c:bX):Qp S.2.1 (Dh S R a c):=λi b=>((Pn S R a c i).1 b).1
def Rj (a:eT):aO:=a.map λt=>((t:Nat):Int)
theorem Kj (x:Int) (l:aO):iL (x::l)=if nz x=true then 0 else if iL l<0 then -1 else iL l+1:=by
 unfold iL;rw[List.findIdx?_cons];cases h:nz x with
 |true=>simp
 |false=>
  cases a:l.findIdx? nz with
  |none=>simp
  |some i=>simp<;>omega
end Go.Proofs.YtcnnfkapmjhnaaaGreatDoor
namespace Go.Proofs.YtcnnfkapmjhnaaaGreatDoor
open Go.Sx
def yB  (a:aO):Option aO:=
 some (a)
def tA (c:aO×Int) (b:(aO×Int)->Option aO) (a:aO):Option aO:=
 b (a,(wI .i64 (c.2+(1:Int))))
def pW (b:aO) (d:Int) (a:aO×Int) (c:(aO×Int)->Option aO):Option aO:=
 if a.2<d then(if(b.length:Int)=(0:Int)then(ck ((a.1.length:Int)+(List.length ([(4294967295:Int)]):Int)<=1099511627) (tA a c (a.1++([(4294967295:Int)]))))else(ck ((b.length:Int)≠0) (ck (0<=(Int.tmod a.2 (b.length:Int))∧(Int.tmod a.2 (b.length:Int))<(b.length:Int)) (ck ((b.length:Int)≠0) (ck ((24:Int)≠0) (ck (0<=(wI .u64 (Int.tmod (wI .i64 (Int.tdiv a.2 (b.length:Int))) (24:Int)))) (ck (0<=(wI .u64 ((24:Int) - (wI .u64 (Int.tmod (wI .i64 (Int.tdiv a.2 (b.length:Int))) (24:Int)))))) (ck ((a.1.length:Int)+(List.length ([(eW .u32 (Nk .u32 (CZ .u32 (eW .u32 (at' b (Int.tmod a.2 (b.length:Int))) (16777215:Int)) (wI .u64 (Int.tmod (wI .i64 (Int.tdiv a.2 (b.length:Int))) (24:Int)))) (sG .u32 (eW .u32 (at' b (Int.tmod a.2 (b.length:Int))) (16777215:Int)) (wI .u64 ((24:Int) - (wI .u64 (Int.tmod (wI .i64 (Int.tdiv a.2 (b.length:Int))) (24:Int))))))) (16777215:Int))]):Int)<=1099511627) (tA a c (a.1++([(eW .u32 (Nk .u32 (CZ .u32 (eW .u32 (at' b (Int.tmod a.2 (b.length:Int))) (16777215:Int)) (wI .u64 (Int.tmod (wI .i64 (Int.tdiv a.2 (b.length:Int))) (24:Int)))) (sG .u32 (eW .u32 (at' b (Int.tmod a.2 (b.length:Int))) (16777215:Int)) (wI .u64 ((24:Int) - (wI .u64 (Int.tmod (wI .i64 (Int.tdiv a.2 (b.length:Int))) (24:Int))))))) (16777215:Int))])))))))))))else(yB  (a.1))
def mQ (U:Nat) (a:aO) (b:Int):Option aO:=
 bH (pW a b) U (([]:aO),(0:Int))
theorem Fh:aS Tryz.prog 11:=Tryz.call11
theorem mS (U:Nat) {a:aO} {i:Int} (n:Value) (r:aO) (h:mQ U a i=some r):
  aY Tryz.prog 11 #[n,vI (i)] [Sl DO n a] (λx:Value=>x) (λx l=>Ar pX x r::l) (λ_ l=>l):=by
 refine aY.of Tryz.func11 Z Tryz.ntmps11 Z λc=>?_;unfold mQ at h;refine aP<|aC Z<|aJ<|aP<|aC Z<|aJ<|aK<|El (B:=Value) (λj=>yB  j=some r) (λj k=>[(5,k)]) (λj k=>[Ar pX k j]) ?_ ?_
 ·refine aP<|aC Z<|aJ<|aR<|jT (gK pX)<|eO (B:=Value) (pW a i) (λb f=>[(0,n),(1,vI (i)),(5,f),(6,vI (b.2))]) (λb f=>[Ar pX f b.1]) (([]:aO),(0:Int)) (lE) h SF (a_.refl _) ?_;intro w b f h;refine aK<|aP<|aA Z<|aA Z<|cO Z<|aJ ?_;refine dK h Z (λh=>?_) λh=>?_
  ·refine cG<|aK<|El (B:=Value) (λd=>tA b (bH (pW a i) w) d=some r) (λd g=>[(0,n),(1,vI (i)),(5,g),(6,vI (b.2))]) (λd g=>[Ar pX g d]) ?_ ?_
   ·refine aR<|aK<|aP<|aA Z<|gS (aE.fact 0 Z) Z<|bS Z<|aJ ?_;refine dK h Z (λh=>?_) λh=>?_
    ·refine aP<|aA Z<|aG (cQ (e:=pX) ([(4294967295:Int)]) [(0,vU (4294967295:Int))] Z Z Z Z (rK (vU (4294967295:Int)) Z) Z Z Z) Z λC=>dQ h λo h=>aG (iV 1 mU Z Z Z (aT (aE.res 0 Z) mU) Z Z Z Z o Z) Z λy=>aC Z<|aJ<|sD<|fD<|yY<|CE ?_;exact bW (b.1++([(4294967295:Int)])) (y) h SF (a_.ix [1] Z Z) (aB.refl _ _)
    refine cG<|aK ?_;refine JR.start [0,0,0,4,14,31,63,0,0,256,896,1920,3968,127,16383] 14 mixedOrders (by decide +kernel) ?_;refine zBe (by exact rfl) ?_;refine bA Z<|bA Z<|bA Z<|bG Z .nil (hZ 0 Z) (fF Z (aE.fact 0 Z) Z) aN.z<|dQ h λp h=>gO Z (QQ Z Z p)<|dQ h λm h=>bG Z .nil (hZ 0 Z) (aZ Z Z (aE.fact 0 Z) Z Z m) aN.z<|bG Z .nil (hZ 0 Z) (bV Z (aE.fact 0 Z) Z Z Z Je m) aN.z<|bA Z<|bA Z<|bG Z .nil (hZ 0 Z) (fF Z (aE.fact 0 Z) Z) aN.z<|dQ h λq h=>gO Z (Tp Z Z q)<|dQ h λs h=>gO Z (QQ Z Z s)<|gO Z (Tn Z Z Z)<|gO Z (wO Z)<|bR 14 Z Z<|aC Z<|aJ<|aP<|aA Z<|Bt Z<|aC Z<|aJ<|aQ<|aA Z<|aA Z<|aA Z<|dQ h λt h=>aD (NL Z Z t) Z<|aA Z<|aA Z<|aD (qP Z Z) Z<|dQ h λu h=>aD (NM Z Z u) Z<|aD (Yg Z Z) Z<|Bt Z<|aG (cQ (e:=pX) ([(eW .u32 (Nk .u32 (CZ .u32 (eW .u32 (at' a (Int.tmod b.2 (a.length:Int))) (16777215:Int)) (wI .u64 (Int.tmod (wI .i64 (Int.tdiv b.2 (a.length:Int))) (24:Int)))) (sG .u32 (eW .u32 (at' a (Int.tmod b.2 (a.length:Int))) (16777215:Int)) (wI .u64 ((24:Int) - (wI .u64 (Int.tmod (wI .i64 (Int.tdiv b.2 (a.length:Int))) (24:Int))))))) (16777215:Int))]) [(0,vU (eW .u32 (Nk .u32 (CZ .u32 (eW .u32 (at' a (Int.tmod b.2 (a.length:Int))) (16777215:Int)) (wI .u64 (Int.tmod (wI .i64 (Int.tdiv b.2 (a.length:Int))) (24:Int)))) (sG .u32 (eW .u32 (at' a (Int.tmod b.2 (a.length:Int))) (16777215:Int)) (wI .u64 ((24:Int) - (wI .u64 (Int.tmod (wI .i64 (Int.tdiv b.2 (a.length:Int))) (24:Int))))))) (16777215:Int)))] Z Z Z Z (rK (vU (eW .u32 (Nk .u32 (CZ .u32 (eW .u32 (at' a (Int.tmod b.2 (a.length:Int))) (16777215:Int)) (wI .u64 (Int.tmod (wI .i64 (Int.tdiv b.2 (a.length:Int))) (24:Int)))) (sG .u32 (eW .u32 (at' a (Int.tmod b.2 (a.length:Int))) (16777215:Int)) (wI .u64 ((24:Int) - (wI .u64 (Int.tmod (wI .i64 (Int.tdiv b.2 (a.length:Int))) (24:Int))))))) (16777215:Int))) Z) Z Z Z) Z λD=>dQ h λv h=>aG (iV 1 mU Z Z Z (aT (aE.res 0 Z) mU) Z Z Z Z v Z) Z λA=>aC Z<|eV<|lU ?_;exact bW (b.1++([(eW .u32 (Nk .u32 (CZ .u32 (eW .u32 (at' a (Int.tmod b.2 (a.length:Int))) (16777215:Int)) (wI .u64 (Int.tmod (wI .i64 (Int.tdiv b.2 (a.length:Int))) (24:Int)))) (sG .u32 (eW .u32 (at' a (Int.tmod b.2 (a.length:Int))) (16777215:Int)) (wI .u64 ((24:Int) - (wI .u64 (Int.tmod (wI .i64 (Int.tdiv b.2 (a.length:Int))) (24:Int))))))) (16777215:Int))])) (A) h SF (a_.ix [1] Z Z) (aB.refl _ _)
   intro d g h;unfold tA at h;refine aQ<|aA Z<|cH Z<|aC Z<|aJ ?_;exact AS (d,(wI .i64 (b.2+(1:Int)))) (g) h SF Z
  refine fL ?_;exact iH (b.1) (f) h SF Z
 intro j k h;unfold yB at h;refine aP<|aA Z<|aC Z<|aJ<|aU ?_;cases h;exact eR (k) Z Z (RV.tmp Z) (a_.refl _) aB.nil
end Go.Proofs.YtcnnfkapmjhnaaaGreatDoor
namespace Go.Proofs.YtcnnfkapmjhnaaaGreatDoor
open Go Go.Sx
theorem SI (x:Int):0<=wI .u64 x:=by
 rw[DJ];have:IntKind.u64.wrap x=x%18446744073709551616:=rfl;rw[this];omega
theorem JX (l:aO) {n:Nat} (A:n<=900):∃a,mQ 1000 l (n:Int)=some a∧a.length=n∧∀k:Nat,k<a.length->∃m:Nat,at' a (k:Int)=(m:Int)∧m<4294967296:=by
 unfold mQ;obtain⟨⟨a,i⟩,⟨d,c,f⟩,u⟩:=mL (step:=pW l (n:Int)) (K:=λz=>some z.1) n
  (λk z=>z.2=(k:Int)∧z.1.length=k∧∀j:Nat,j<k->∃m:Nat,at' z.1 (j:Int)=(m:Int)∧m<4294967296) (λk z r w o=>by
  obtain⟨a,i⟩:=z;obtain⟨d,c,f⟩:=o;dsimp only at d c f;subst d;have b:∀m:Nat,m<4294967296->∀j:Nat,j<k+1->∃q:Nat,at' (a++[(m:Int)]) (j:Int)=(q:Int)∧q<4294967296:=λm p j v=>by
   rw[P_ a _ (by omega)];by_cases e:j<a.length
   ·rw[if_pos e];exact f j (by omega)
   ·rw[if_neg e];exact⟨m,rfl,p⟩
  have g:∀m:Nat,(a.length:Int)+(List.length [(m:Int)]:Int)<=1099511627:=λm=>by simp;omega
  unfold pW tA;dsimp only;rw[if_pos (by omega),dL (by omega)];by_cases y:l.length=0
  ·rw[if_pos (by omega),cK (show(a.length:Int)+(List.length [(4294967295:Int)]:Int)<=1099511627 from g 4294967295)];exact⟨_,⟨rfl,by simp[c],b 4294967295 (by omega)⟩,rfl⟩
  ·have s:Int.tmod (k:Int) (l.length:Int)=((k%l.length:Nat):Int):=rfl;have x:k%l.length<l.length:=Nat.mod_lt _ (by omega);rw[if_neg (by omega),cK (by omega),cK (by rw[s];omega),cK (by omega),cK (by decide),cK (SI _),cK (SI _)];have t:∀X:Int,∃m:Nat,eW .u32 X (16777215:Int)=(m:Int)∧m<4294967296:=λX=>⟨_,OT _ _,Nat.lt_of_le_of_lt Nat.and_le_left (Lw _)⟩
   obtain⟨m,p,h⟩:=t (Nk .u32 (CZ .u32 (eW .u32 (at' l (Int.tmod (k:Int) (l.length:Int))) (16777215:Int)) (wI .u64 (Int.tmod (wI .i64 (Int.tdiv (k:Int) (l.length:Int))) (24:Int)))) (sG .u32 (eW .u32 (at' l (Int.tmod (k:Int) (l.length:Int))) (16777215:Int)) (wI .u64 ((24:Int) - (wI .u64 (Int.tmod (wI .i64 (Int.tdiv (k:Int) (l.length:Int))) (24:Int)))))));rw[p,cK (g m)];exact⟨_,⟨rfl,by simp[c],b m h⟩,rfl⟩) (λz r o=>by
  obtain⟨a,i⟩:=z;obtain⟨d,c,f⟩:=o;dsimp only at d;subst d;unfold pW yB;dsimp only;rw[if_neg (by omega)]) 1000 (([]:aO),(0:Int)) ⟨rfl,rfl,λj v=>by omega⟩ (by omega)
 exact⟨a,u,c,λk w=>f k (by dsimp only at c;omega)⟩
def Xn (f:Nat->Nat):Nat->Nat
 |0=>0
 |n+1=>Xn f n+f n
theorem aas {f:Nat->Nat}:∀{n:Nat},(∀v,v<n->f v<=1)->Xn f n<=n
 |0,_=>zAe 0
 |n+1,h=>by
  have:=aas (n:=n) λv a=>h v (by omega);have:=h n (by omega);simp only[Xn];omega
def BM (c:bX) (v:Nat):Int:=at' (at' c (v:Int)) 0
def sW (g:GR) (c:bX) (v i:Nat):Int:=at' (at' c (fU (row g v) i).1) 0
theorem Vx {g:GR} {c:bX} {v i u:Nat} (h:(fU (row g v) i).1=(u:Int)):sW g c v i=BM c u:=by unfold sW BM;rw[h]
def Lk (g:GR) (v i u:Nat) (w:Int):Prop:=i<(row g v).length∧u<g.2.length∧(fU (row g v) i).1=(u:Int)∧(fU (row g v) i).2=w
theorem VG.lk {g:GR} (c:VG g) {v i:Nat} (e:v<g.2.length) (b:i<(row g v).length):∃u w,Lk g v i u w:=by
 obtain⟨u,d,a,_⟩:=c.port e b;exact⟨u,_,b,d,a,rfl⟩
inductive Wv (g:GR) (F:Int->Int->Int):Nat->Int->Prop
 |zero:Wv g F 0 0
 |link {u v i:Nat} {y w:Int} (h:Wv g F u y) (hv:v<g.2.length) (hl:Lk g v i u w):Wv g F v (F y w)
structure kZ (g:GR) (F:Int->Int->Int) (L:Int):Prop where
 L1:1<=L
 mono:∀y y' w,y<=y'->F y w<=F y' w
 up:∀v i u w y,v<g.2.length->Lk g v i u w->0<=y->y+L<=F y w
 reach:∀v,v<g.2.length->∃y,Wv g F v y
noncomputable def jP (g:GR) (F:Int->Int->Int) (v:Nat):Int:=open Classical in if h:∃y,Wv g F v y∧∀z,Wv g F v z->y<=z then Classical.choose h else 0
section
variable {g:GR} {F:Int->Int->Int} {L:Int}
theorem Wv.nonneg (a:kZ g F L) {v:Nat} {y:Int} (h:Wv g F v y):0<=y:=by
 induction h with
 |zero=>exact Int.le_refl 0
 |link h c b d=>
  have:=a.up _ _ _ _ _ c b d;have:=a.L1;omega
theorem Ca (d:kZ g F L) {v:Nat} (i:v<g.2.length):Wv g F v (jP g F v)∧∀z,Wv g F v z->jP g F v<=z:=by
 have e:∃y,Wv g F v y∧∀z,Wv g F v z->y<=z:=by
  obtain⟨y,b⟩:=d.reach v i;have c:∀n:Nat,∀y,y.toNat=n->Wv g F v y->∃y,Wv g F v y∧∀z,Wv g F v z->y<=z:=by
   intro n
   induction n using Nat.strongRecOn with
   | _ n ih =>
    intro y k b;by_cases h:∃z,Wv g F v z∧z<y
    ·obtain⟨z,a,f⟩:=h;have j:=a.nonneg d;exact ih z.toNat (by omega) z Z a
    ·exact⟨y,b,λz a=>Int.not_lt.1 λq=>h ⟨z,a,q⟩⟩
  exact c _ y Z b
 unfold jP;rw[dif_pos e];exact Classical.choose_spec e
theorem Cb (c:kZ g F L) (d:0<g.2.length):jP g F 0=0:=by
 obtain⟨a,b⟩:=Ca c d;have:=b 0 .zero;have:=a.nonneg c;omega
theorem lV (a:kZ g F L) {v:Nat} (b:v<g.2.length):0<=jP g F v:=(Ca a b).1.nonneg a
theorem TV (a:kZ g F L) {v i u:Nat} {w:Int} (c:v<g.2.length) (b:Lk g v i u w):jP g F v<=F (jP g F u) w:=
 (Ca a c).2 _ (.link (Ca a b.2.1).1 c b)
theorem Gf (e:kZ g F L) {v:Nat} (f:v<g.2.length) (j:v≠0):∃i u w,Lk g v i u w∧jP g F v=F (jP g F u) w∧jP g F u+L<=jP g F v:=by
 have h:=(Ca e f).1;generalize k:jP g F v=y at h;cases h with
 |zero=>exact absurd Z j
 | @link u _ i y w hu hv' hl=>
  have a:=(Ca e hl.2.1).2 _ hu;have b:=e.mono _ _ w a;have c:=TV e f hl;have d:=e.up _ _ _ _ _ f hl (lV e hl.2.1);exact⟨i,u,w,hl,by omega,by omega⟩
def Bu (f:Nat->Int) (x:Int):Nat->Nat
 |0=>0
 |n+1=>Bu f x n+if f n<x then 1 else 0
theorem RX {f:Nat->Int} {x:Int}:∀n,Bu f x n<=n
 |0=>zAe 0
 |n+1=>by
  have:=RX (f:=f) (x:=x) n;unfold Bu;split<;>omega
theorem ME {f:Nat->Int} {x y:Int} (h:x<=y):∀n,Bu f x n<=Bu f y n
 |0=>zAe 0
 |n+1=>by
  have:=ME (f:=f) h n;unfold Bu;split<;>split<;>omega
theorem RZ {f:Nat->Int} {x y:Int} (h:x<=y) {u:Nat} (a:f u<y) (b:¬f u<x):∀{n},u<n->Bu f x n<Bu f y n
 | n + 1, hu => by
  have c:=ME (f:=f) h n;unfold Bu;by_cases e:u=n
  ·subst e;rw[if_pos a,if_neg b];omega
  ·have:=RZ h a b (n:=n) (by omega);split<;>split<;>omega
theorem MF {f:Nat->Int} {v:Nat}:∀{n},v<n->Bu f (f v) n<n
 | n + 1, hv => by
  have:=RX (f:=f) (x:=f v) n;unfold Bu;by_cases e:v=n
  ·subst e;rw[if_neg (Int.lt_irrefl _)];omega
  ·have:=MF (f:=f) (v:=v) (n:=n) (by omega);split<;>omega
noncomputable def rk (g:GR) (F:Int->Int->Int) (v:Nat):Nat:=Bu (jP g F) (jP g F v) g.2.length
theorem VJ {v:Nat} (a:v<g.2.length):rk g F v<g.2.length:=MF a
theorem PT (a:kZ g F L) {u v:Nat} (b:u<g.2.length) (h:jP g F u+L<=jP g F v):rk g F u<rk g F v:=by
 have:=a.L1;exact RZ (by omega) (u:=u) (by omega) (by omega) b
theorem PU (b:kZ g F L) {v:Nat} (e:v<g.2.length) (h:rk g F v=0):v=0:=by
 refine Decidable.byContradiction λc=> ?_;obtain⟨i,u,w,d,_,a⟩:=Gf b e c;have:=PT b d.2.1 a;omega
theorem Dt (a:kZ g F L) {b:Nat->Int} (c:0<=b 0) (d:∀v i u w k,v<g.2.length->Lk g v i u w->∀y,y<=b k->F y w<=b (k+1)) (j:∀k,b k<=b (k+1)):∀k v,v<g.2.length->rk g F v<=k->jP g F v<=b k
 |0,v,hv,h=>by
  obtain rfl:=PU a hv (by omega);rw[Cb a hv];exact c
 | k + 1, v, hv, h => by
  by_cases m:v=0
  ·have:=Dt a c d j k 0 (by omega) (by
    have:rk g F 0=0:=by
     refine Decidable.byContradiction λq=> ?_;have p:=Cb a (show 0<g.2.length by omega);have l:∀n,n<=g.2.length->Bu (jP g F) (jP g F 0) n=0:=by
      intro n
      induction n with
      |zero=>intro _;rfl
      |succ n r=>
       intro t;unfold Bu;rw[r (by omega),if_neg (by rw[p];have:=lV a (show n<g.2.length by omega);omega)]
     exact q (l _ (zAe _))
    omega)
   subst m;have:=j k;omega
  ·obtain⟨i,u,w,e,o,f⟩:=Gf a hv m;have s:=PT a e.2.1 f;have:=Dt a c d j k u e.2.1 (by omega);rw[o];exact d v i u w k hv e _ this
def Wg (g:GR) (F:Int->Int->Int) (d:Nat->Int) (x:Int):Prop:=∀v,v<g.2.length->min (d v) x=min (jP g F v) x
theorem Wg.eq {d:Nat->Int} {x:Int} (h:Wg g F d x) {v:Nat} (a:v<g.2.length) (b:d v<x∨jP g F v<x):d v=jP g F v:=by
 have:=h v a;omega
structure XI (g:GR) (F:Int->Int->Int) (d:Nat->Int) (N:Int) (v:Nat) (X:Int):Prop where
 cap:X<=N
 le:∀i u w,Lk g v i u w->X<=F (d u) w
 eq:X=N∨∃i u w,Lk g v i u w∧X=F (d u) w
theorem Tt (j:kZ g F L) {d c:Nat->Int} {N:Int} {r:Nat} (k:Wg g F d ((r:Int)*L)) (p:∀v,v<g.2.length->0<=d v) (n:c 0=0) (o:∀v,v<g.2.length->jP g F v<=N) (s:∀v,v<g.2.length->v≠0->XI g F d N v (c v)):Wg g F c (((r+1:Nat):Int)*L):=by
 intro v f;have C:=j.L1;have y:((r+1:Nat):Int)*L=(r:Int)*L+L:=by push_cast;rw[Int.add_mul,Int.one_mul]
 rw[y];generalize (r:Int)*L=x at k;by_cases b:v=0
 ·subst b;rw[n,Cb j f]
 ·obtain⟨B,l,m⟩:=s v f b;obtain⟨i,u,w,a,D,q⟩:=Gf j f b;have z:jP g F v<x+L->c v<=jP g F v:=λh=>by
   have e:=k.eq a.2.1 (.inr (by omega));have:=l i u w a;rw[e]at this;omega
  have A:jP g F v<=c v∨x+L<=c v:=by
   rcases m with e|⟨i,u,w,a,e⟩
   ·left;rw[e];exact o v f
   ·by_cases t:d u<x
    ·left;rw[e,k.eq a.2.1 (.inl t)];exact TV j f a
    ·right;rw[e];have:=j.up v i u w (d u) f a (p u a.2.1);omega
  omega
theorem RJ (b:kZ g F L) {d:Nat->Int} {x:Int} (c:Wg g F d x) (f:∀v,v<g.2.length->0<=d v) {v i u:Nat} {w:Int} (e:v<g.2.length) (a:Lk g v i u w) (l:jP g F v<x+L):F (d u) w=jP g F v↔F (jP g F u) w=jP g F v:=by
 have j:=b.up v i u w (d u) e a (f u a.2.1);have k:=b.up v i u w (jP g F u) e a (lV b a.2.1);constructor
 ·intro h;rw[<-c.eq a.2.1 (.inl (by omega))];exact h
 ·intro h;rw[c.eq a.2.1 (.inr (by omega))];exact h
end
def WO:E:= .bi 41 (.lf 10 0) (.bi 42 (.bi 36 (.lf 5 0) (.lf 1 0)) (.bi 36 (.lf 5 1) (.lf 4 0)))
def WN (eX eY:E):E:= .bi 41 (.un 19 (.lf 10 0)) (.bi 42 (.bi 36 (.lf 5 0) eX) (.bi 36 (.lf 5 1) eY))
def RY (eX eY:E):List RL:=[(WO,[(0,.lf 1 0),(1,.lf 4 0)]),(WN eX eY,[(0,eX),(1,eY)])]
def SR (c:bX) (v:Nat):Int:=at' (at' c (v:Int)) 1
theorem uD (b:Bool):sO b≠0↔b=true:=by cases b<;>simp[sO]
theorem aeE (b:Bool):sO b=0↔b=false:=by cases b<;>simp[sO]
section
variable {p:Ap} {g:GR} {c:List (List Int)} {v:Nat} {eX eY:E} {vars:List Gu}
def TY (p:Ap) (g:GR) (c:List (List Int)) (v:Nat) (eX eY:E):Int×Int:=if v=0 then(0,-1)else(iF (bO p g) c v eX,iF (bO p g) c v eY)
theorem Za:iF (bO p g) c v WO≠0↔v=0∧(BM c v≠0∨SR c v ≠ -1):=by
 have e:iF (bO p g) c v WO=sO (decide (sO (decide ((v:Int)=0))≠0)&&decide (sO (decide (sO (decide (BM c v≠0))≠0)||decide (sO (decide (SR c v ≠ -1))≠0))≠0)):=rfl;rw[e,uD,zA4,zA1,zA1,uD,uD,zAx,zA1,zA1,zA1,uD,uD,zA1,zA1];constructor
 ·rintro⟨a,b⟩;exact⟨by omega,b⟩
 ·rintro⟨a,b⟩;exact⟨by omega,b⟩
theorem Y_:iF (bO p g) c v (WN eX eY)≠0↔v≠0∧(BM c v≠iF (bO p g) c v eX∨SR c v≠iF (bO p g) c v eY):=by
 have e:iF (bO p g) c v (WN eX eY)=sO (decide (sO (decide (sO (decide ((v:Int)=0))=0))≠0)&&decide (sO (decide (sO (decide (BM c v≠iF (bO p g) c v eX))≠0)||decide (sO (decide (SR c v≠iF (bO p g) c v eY))≠0))≠0)):=rfl;rw[e,uD,zA4,zA1,zA1,uD,uD,zAx,zA1,zA1,zA1,aeE,uD,uD,zA1,zA1,decide_eq_false_iff_not];constructor
 ·rintro⟨a,b⟩;exact⟨by omega,b⟩
 ·rintro⟨a,b⟩;exact⟨by omega,b⟩
theorem ahE:Am (bO p g) (RY eX eY) c v=if BM c v=(TY p g c v eX eY).1∧SR c v=(TY p g c v eX eY).2 then -1 else if v=0 then 0 else 1:=by
 have f:=Za (p:=p) (g:=g) (c:=c) (v:=v);have h:=Y_ (p:=p) (g:=g) (c:=c) (v:=v) (eX:=eX) (eY:=eY);unfold Am RY;simp only[zB8,List.map_nil];rw[Kj,Kj,show iL [] = -1 from rfl];have z:∀x:Int,nz x=true↔x≠0:=λx=>by simp[nz]
 unfold TY;by_cases b:v=0
 ·rw[if_pos b,if_pos b];by_cases a:BM c v=0∧SR c v = -1
  ·have d:¬nz (iF (bO p g) c v WO)=true:=by rw[z,f];rintro⟨_,q|q⟩;exact q a.1;exact q a.2
   have e:¬nz (iF (bO p g) c v (WN eX eY))=true:=by rw[z,h];exact λq=>q.1 b
   rw[if_pos a,if_neg d,if_neg e];rfl
  ·have d:nz (iF (bO p g) c v WO)=true:=by
    rw[z,f];exact⟨b,Classical.byContradiction λq=>a ⟨Classical.not_not.1 λw=>q (.inl w),Classical.not_not.1 λw=>q (.inr w)⟩⟩
   rw[if_neg a,if_pos d]
 ·rw[if_neg b,if_neg b];have d:¬nz (iF (bO p g) c v WO)=true:=by rw[z,f];exact λq=>b q.1
  by_cases a:BM c v=iF (bO p g) c v eX∧SR c v=iF (bO p g) c v eY
  ·have e:¬nz (iF (bO p g) c v (WN eX eY))=true:=by rw[z,h];rintro⟨_,q|q⟩;exact q a.1;exact q a.2
   rw[if_pos a,if_neg d,if_neg e];rfl
  ·have e:nz (iF (bO p g) c v (WN eX eY))=true:=by
    rw[z,h];exact⟨b,Classical.byContradiction λq=>a ⟨Classical.not_not.1 λw=>q (.inl w),Classical.not_not.1 λw=>q (.inr w)⟩⟩
   rw[if_neg a,if_neg d,if_pos e];rfl
theorem ahC (l:List Int) (h:l.length=2):∃a b,l=[a,b]:=by
 match l,h with
 | [a,b],_=>exact⟨a,b,rfl⟩
theorem Ic {k a b x:Int} (d:a<=x) (e:x<=b):DX k (a,b) x=x:=by unfold DX;rw[if_pos ⟨d,e⟩]
theorem ahH (k:yL g 2 c) (l:v<g.2.length) (d:lo g (at' vars ((0:Nat):Int)) v<=(TY p g c v eX eY).1∧(TY p g c v eX eY).1<=hi g (at' vars ((0:Nat):Int)) v) (f:lo g (at' vars ((1:Nat):Int)) v<=(TY p g c v eX eY).2∧(TY p g c v eX eY).2<=hi g (at' vars ((1:Nat):Int)) v):
  at' (kU (bO p g) vars (RY eX eY) c (Rc (bO p g) (RY eX eY) c)) (v:Int)=[(TY p g c v eX eY).1,(TY p g c v eX eY).2]:=by
 have o:=k.len;obtain⟨a,b,h⟩:=ahC _ (k.row v l);rw[ML (by omega),Pm,zA9 (show v<(bO p g).2.1.2.length from l),Bool.true_and,ahE];have m:BM c v=a:=by unfold BM;rw[h];rfl
 have n:SR c v=b:=by unfold SR;rw[h];rfl
 by_cases j:BM c v=(TY p g c v eX eY).1∧SR c v=(TY p g c v eX eY).2
 ·rw[if_pos j,if_neg (by decide),h,<-j.1,<-j.2,m,n]
 ·rw[if_neg j];by_cases i:v=0
  ·rw[if_pos i,if_pos (by decide)];show((at' c (v:Int)).set 0 (DX (at' vars ((0:Nat):Int)).2.1 (lo g (at' vars ((0:Nat):Int)) v,hi g (at' vars ((0:Nat):Int)) v) 0)).set 1 (DX (at' vars ((1:Nat):Int)).2.1 (lo g (at' vars ((1:Nat):Int)) v,hi g (at' vars ((1:Nat):Int)) v) (-1))=_;have e:TY p g c v eX eY=(0,-1):=if_pos i;rw[e]at d f ⊢;rw[Ic d.1 d.2,Ic f.1 f.2,h];rfl
  ·rw[if_neg i,if_pos (by decide)];show((at' c (v:Int)).set 0 (DX (at' vars ((0:Nat):Int)).2.1 (lo g (at' vars ((0:Nat):Int)) v,hi g (at' vars ((0:Nat):Int)) v) (iF (bO p g) c v eX))).set 1 (DX (at' vars ((1:Nat):Int)).2.1 (lo g (at' vars ((1:Nat):Int)) v,hi g (at' vars ((1:Nat):Int)) v) (iF (bO p g) c v eY))=_;have e:TY p g c v eX eY=(iF (bO p g) c v eX,iF (bO p g) c v eY):=if_neg i;rw[e]at d f ⊢;rw[Ic d.1 d.2,Ic f.1 f.2,h];rfl
end
def FL (g:GR) (F:Int->Int->Int) (c:bX) (v:Nat):aO:=(List.range (row g v).length).map λi=>F (sW g c v i) (fU (row g v) i).2
noncomputable def LL (g:GR) (F:Int->Int->Int) (v:Nat):aO:=(List.range (row g v).length).map λi=>F (jP g F (fU (row g v) i).1.toNat) (fU (row g v) i).2
structure Tm (g:GR) (vars:List Gu) (eX eY:E) (F:Int->Int->Int) (L N:Int):Prop where
 grow:kZ g F L
 cap:∀v,v<g.2.length->jP g F v<=N
 N0:0<=N∧N<1073741824
 len:vars.length=2
 ok:CW g vars
 lo0:∀v,lo g (at' vars ((0:Nat):Int)) v=0
 hi0:∀v,hi g (at' vars ((0:Nat):Int)) v=N
 lo1:∀v,lo g (at' vars ((1:Nat):Int)) v = -1
 hi1:∀v,hi g (at' vars ((1:Nat):Int)) v=((row g v).length:Int) - 1
 X:∀(p:Ap) c v,HU g c vars->v<g.2.length->v≠0->iF (bO p g) c v eX=min N (vN (FL g F c v))
 Y:∀(p:Ap) c v,HU g c vars->v<g.2.length->v≠0->iF (bO p g) c v eY=iL ((FL g F c v).map λy=>sO (decide (y=vN (FL g F c v))))
section
variable {p:Ap} {g:GR} {vars:List Gu} {eX eY:E} {F:Int->Int->Int} {L N:Int} {c:List (List Int)} {v:Nat}
theorem Iq (h:VG g) {v i u:Nat} {w:Int} (d:Lk g v i u w) (c:List (List Int)):sW g c v i=BM c u∧(fU (row g v) i).2=w∧(fU (row g v) i).1.toNat=u:=by
 obtain⟨e,f,a,b⟩:=d;refine⟨?_,b,by rw[a];rfl⟩
 unfold sW BM;rw[a]
theorem XD (e:VG g) {i u:Nat} {w:Int} (d:Lk g v i u w):F (BM c u) w∈FL g F c v:=by
 obtain⟨a,b,_⟩:=Iq e d c;exact zAn.2 ⟨i,zAf.2 d.1,by rw[a,b]⟩
theorem adQ (d:VG g) (j:v<g.2.length) {y:Int} (h:y∈FL g F c v):∃i u w,Lk g v i u w∧y=F (BM c u) w:=by
 obtain⟨i,f,rfl⟩:=zAn.1 h;obtain⟨u,w,e⟩:=d.lk j (zAf.1 f);obtain⟨a,b,_⟩:=Iq d e c;exact⟨i,u,w,e,by rw[a,b]⟩
theorem Mb (l:List Int) : -1<=iL l∧iL l<=(l.length:Int) - 1:=by
 unfold iL;cases h:l.findIdx? nz with
 |none=>simp;omega
 |some i=>
  have:=(List.findIdx?_eq_some_iff_getElem.1 h).1;simp;omega
theorem Pf (S:Tm g vars eX eY F L N) (a:HU g c vars) (b:v<g.2.length):0<=BM c v∧BM c v<=N:=by
 have:=a.ok v b 0 (by rw[S.len];omega);rw[S.lo0,S.hi0]at this;exact this
theorem adU (S:Tm g vars eX eY F L N) (j:VG g) (h:HU g c vars) (f:v<g.2.length):(0<=(TY p g c v eX eY).1∧(TY p g c v eX eY).1<=N)∧(-1<=(TY p g c v eX eY).2∧(TY p g c v eX eY).2<=((row g v).length:Int) - 1):=by
 have m:=S.N0;unfold TY;by_cases b:v=0
 ·rw[if_pos b];dsimp only;omega
 ·rw[if_neg b];dsimp only;rw[S.X p c v h f b,S.Y p c v h f b];have n:0<=vN (FL g F c v):=by
   rcases Dx (FL g F c v)with e|e
   ·rw[e];decide
   ·obtain⟨i,u,w,d,l⟩:=adQ j f e;have a:=Pf S h d.2.1;have:=S.grow.up v i u w (BM c u) f d a.1;have:=S.grow.L1;omega
  have k:=Mb ((FL g F c v).map λy=>sO (decide (y=vN (FL g F c v))));have d:((FL g F c v).map λy=>sO (decide (y=vN (FL g F c v)))).length=(row g v).length:=by simp[FL]
  rw[d]at k;omega
theorem ZG (S:Tm g vars eX eY F L N) (e:VG g) (a:HU g c vars) (d:v<g.2.length):at' (kU (bO p g) vars (RY eX eY) c (Rc (bO p g) (RY eX eY) c)) (v:Int)=[(TY p g c v eX eY).1,(TY p g c v eX eY).2]:=by
 have h:=adU (p:=p) S e a d;have b:=a.shape;rw[S.len]at b;exact ahH b d (by rw[S.lo0,S.hi0];exact h.1) (by rw[S.lo1,S.hi1];exact h.2)
theorem ZH (S:Tm g vars eX eY F L N) (d:VG g) (a:HU g c vars):HU g (kU (bO p g) vars (RY eX eY) c (Rc (bO p g) (RY eX eY) c)) vars:=by
 have f:=a.len;refine⟨by rw[On];exact f,λv b=> ?_,λv b x i=> ?_⟩
 ·rw[ZG S d a b,S.len];rfl
 ·have h:=adU (p:=p) S d a b;rw[S.len]at i;have e:val (kU (bO p g) vars (RY eX eY) c (Rc (bO p g) (RY eX eY) c)) v x=at' [(TY p g c v eX eY).1,(TY p g c v eX eY).2] (x:Int):=by
   show at' (at' _ (v:Int)) (x:Int)=_;rw[ZG S d a b]
  rw[e];rcases(show x=0∨x=1 by omega)with rfl|rfl
  ·rw[S.lo0,S.hi0];exact h.1
  ·rw[S.lo1,S.hi1];exact h.2
theorem LV (S:Tm g vars eX eY F L N) (a:VG g) (b:HU g c vars) (d:v<g.2.length):BM (kU (bO p g) vars (RY eX eY) c (Rc (bO p g) (RY eX eY) c)) v=(TY p g c v eX eY).1∧SR (kU (bO p g) vars (RY eX eY) c (Rc (bO p g) (RY eX eY) c)) v=(TY p g c v eX eY).2:=by
 unfold BM SR;rw[ZG S a b d];exact⟨rfl,rfl⟩
theorem aec (S:Tm g vars eX eY F L N) (d:VG g) (j:HU g c vars) (f:v<g.2.length) (b:v≠0):XI g F (BM c) N v (TY p g c v eX eY).1:=by
 have e:(TY p g c v eX eY).1=min N (vN (FL g F c v)):=by
  unfold TY;rw[if_neg b];exact S.X p c v j f b
 have l:=S.N0;rw[e];refine⟨by omega,λi u w a=> ?_,?_⟩
 ·have:=CN (XD (F:=F) (c:=c) d a);omega
 ·by_cases h:N<=vN (FL g F c v)
  ·left;omega
  ·right;rcases Dx (FL g F c v)with q|q
   ·omega
   ·obtain⟨i,u,w,a,k⟩:=adQ d f q;exact⟨i,u,w,a,by omega⟩
noncomputable def cS (p:Ap) (g:GR) (vars:List Gu) (R:List RL) (a:List (List Int)):Nat->List (List Int)
 |0=>a
 |k+1=>kU (bO p g) vars R (cS p g vars R a k) (Rc (bO p g) R (cS p g vars R a k))
theorem QS (S:Tm g vars eX eY F L N) (f:VG g) {d:List (List Int)} (i:HU g d vars):∀r,HU g (cS p g vars (RY eX eY) d r) vars∧Wg g F (BM (cS p g vars (RY eX eY) d r)) ((r:Int)*L)
 |0=>⟨i,λv e=>by
  have a:=Pf S i e;have b:=lV S.grow e;show min (BM d v) (((0:Nat):Int)*L)=min (jP g F v) (((0:Nat):Int)*L);rw[show((0:Nat):Int)=0 from rfl,Int.zero_mul];omega⟩
 | r + 1 => by
  obtain⟨h,k⟩:=QS S f i r;have l:=f.n1;refine⟨ZH S f h,Tt S.grow k (N:=N) (λv e=>(Pf S h e).1) ?_ S.cap λv e j=> ?_⟩
  ·have:=(LV (p:=p) S f h (v:=0) (by omega)).1;exact this.trans (by unfold TY;rw[if_pos Z])
  ·have:=(LV (p:=p) S f h e).1;show XI g F (BM (cS p g vars (RY eX eY) d r)) N v (BM (kU (bO p g) vars (RY eX eY) (cS p g vars (RY eX eY) d r) (Rc (bO p g) (RY eX eY) (cS p g vars (RY eX eY) d r))) v);rw[this];exact aec S f h e j
theorem Eh {a:Type} [Inhabited a] (f:Nat->a) {n i:Nat} (h:i<n):at' ((List.range n).map f) (i:Int)=f i:=by
 rw[lD (by simpa using h)];simp
theorem afe (S:Tm g vars eX eY F L N) (m:VG g) {j:List (List Int)} (x:HU g j vars) {K:Nat} (I:1<=K) (A:∀v,v<g.2.length->jP g F v<(K:Int)*L) (f:v<g.2.length):
  BM (cS p g vars (RY eX eY) j K) v=jP g F v∧SR (cS p g vars (RY eX eY) j K) v=if v=0 then -1 else iL ((LL g F v).map λy=>sO (decide (y=jP g F v))):=by
 obtain⟨k,rfl⟩:∃k,K=k+1:=⟨K - 1,by omega⟩
 have s:=(QS (p:=p) S m x (k+1)).2;obtain⟨q,r⟩:=QS (p:=p) S m x k;have l:=s.eq f (.inr (A v f));refine⟨l,?_⟩
 have B:=LV (p:=p) S m q f;have t:SR (cS p g vars (RY eX eY) j (k+1)) v=(TY p g (cS p g vars (RY eX eY) j k) v eX eY).2:=B.2;have o:BM (cS p g vars (RY eX eY) j (k+1)) v=(TY p g (cS p g vars (RY eX eY) j k) v eX eY).1:=B.1;generalize cS p g vars (RY eX eY) j k=c at q r o t;rw[t];unfold TY;by_cases e:v=0
 ·rw[if_pos e,if_pos e]
 ·rw[if_neg e,if_neg e];dsimp only;rw[S.Y p c v q f e];have H:((k+1:Nat):Int)*L=(k:Int)*L+L:=by push_cast;rw[Int.add_mul,Int.one_mul]
  have n:=A v f;rw[H]at n;have z:∀v,v<g.2.length->0<=BM c v:=λv f=>(Pf S q f).1;have J:min N (vN (FL g F c v))=jP g F v:=by
   have:=aec (p:=p) S m q f e;unfold TY at o;rw[if_neg e]at o;dsimp only at o;rw[S.X p c v q f e,l]at o;exact o.symm
  have C:vN (FL g F c v)=jP g F v:=by
   obtain⟨i,u,w,h,D,_⟩:=Gf S.grow f e;have:=(RJ S.grow r z f h n).2 D.symm;have:=CN (XD (F:=F) (c:=c) m h);omega
  rw[C];congr 1;unfold FL LL;rw[List.map_map,List.map_map];refine List.map_congr_left λi G=> ?_;obtain⟨u,w,h⟩:=m.lk f (zAf.1 G);obtain⟨a,b,d⟩:=Iq m h c;show sO (decide (F (sW g c v i) (fU (row g v) i).2=jP g F v))=sO (decide (F (jP g F (fU (row g v) i).1.toNat) (fU (row g v) i).2=jP g F v));rw[a,b,d,decide_eq_decide.2 (RJ S.grow r z f h n)]
theorem ZU (A:kZ g F L) (M:VG g) (J:v<g.2.length) (P:v≠0):∃i u w,Lk g v i u w∧iL ((LL g F v).map λy=>sO (decide (y=jP g F v)))=(i:Int)∧jP g F u+L<=jP g F v:=by
 obtain⟨j,S,T,f,B,_⟩:=Gf A J P;have e:((LL g F v).map λy=>sO (decide (y=jP g F v))).length=(row g v).length:=by simp[LL]
 have r:∀{i u:Nat} {w:Int},Lk g v i u w->at' ((LL g F v).map λy=>sO (decide (y=jP g F v))) (i:Int)=sO (decide (F (jP g F u) w=jP g F v)):=λ{i u w} a=>by
  obtain⟨_,b,d⟩:=Iq M a [];unfold LL;rw[List.map_map,Eh _ a.1];show sO (decide (F (jP g F (fU (row g v) i).1.toNat) (fU (row g v) i).2=jP g F v))=_;rw[b,d]
 have D:=Mb ((LL g F v).map λy=>sO (decide (y=jP g F v)));rw[e]at D;by_cases O:iL ((LL g F v).map λy=>sO (decide (y=jP g F v))) = -1
 ·exfalso;have K:∀i,i<(row g v).length->at' ((LL g F v).map λy=>sO (decide (y=jP g F v))) (i:Int)=0:=λi t=>by
   refine Classical.byContradiction λI=> ?_;obtain⟨m,z,H⟩:∃m,(m<(row g v).length∧at' ((LL g F v).map λy=>sO (decide (y=jP g F v))) (m:Int)≠0)∧∀j,j<m->¬(j<(row g v).length∧at' ((LL g F v).map λy=>sO (decide (y=jP g F v))) (j:Int)≠0):=by
    have:∀n:Nat,∀i,i=n->(i<(row g v).length∧at' ((LL g F v).map λy=>sO (decide (y=jP g F v))) (i:Int)≠0)->∃m,(m<(row g v).length∧at' ((LL g F v).map λy=>sO (decide (y=jP g F v))) (m:Int)≠0)∧∀j,j<m->¬(j<(row g v).length∧at' ((LL g F v).map λy=>sO (decide (y=jP g F v))) (j:Int)≠0):=by
     intro n
     induction n using Nat.strongRecOn with
     | _ n ih =>
      intro i t Q;by_cases s:∃j,j<i∧(j<(row g v).length∧at' ((LL g F v).map λy=>sO (decide (y=jP g F v))) (j:Int)≠0)
      ·obtain⟨j,x,k⟩:=s;exact ih j (by omega) j Z k
      ·exact⟨i,Q,λj x k=>s ⟨j,x,k⟩⟩
    exact this i i Z ⟨t,I⟩
   have:=AV (l:=(LL g F v).map λy=>sO (decide (y=jP g F v))) (i:=m) (by rw[e];exact z.1) z.2 λj x=>Classical.byContradiction λq=>H j x ⟨by omega,q⟩;omega
  have:=K j f.1;rw[r f,zA9 B.symm]at this;exact absurd this (by decide)
 ·obtain⟨i,t⟩:∃i:Nat,iL ((LL g F v).map λy=>sO (decide (y=jP g F v)))=(i:Int):=⟨(iL ((LL g F v).map λy=>sO (decide (y=jP g F v)))).toNat,by omega⟩
  obtain⟨u,w,a⟩:=M.lk J (i:=i) (by omega);refine⟨i,u,w,a,t,?_⟩
  have o:at' ((LL g F v).map λy=>sO (decide (y=jP g F v))) (i:Int)≠0:=by
   have h:=t;unfold iL at h;cases C:((LL g F v).map λy=>sO (decide (y=jP g F v))).findIdx? nz with
   |none=>rw[C]at h;exact absurd h (by simp)
   |some m=>
    rw[C]at h;have z:m=i:=by simp at h;omega
    subst z;obtain⟨G,I,_⟩:=List.findIdx?_eq_some_iff_getElem.1 C;rw[lD G];simpa [nz]using I
  rw[r a]at o;have R:F (jP g F u) w=jP g F v:=by
   by_cases q:F (jP g F u) w=jP g F v
   ·exact q
   ·rw[zA8 q]at o;exact absurd Z o
  have:=A.up v i u w _ J a (lV A a.2.1);omega
end
def WJ (a b:E):E:= .ite (.bi 37 (.ag 24 a) b) (.ag 24 a) b
def Rb (a:E):E:= .ag 23 (.bi 35 a (.ag 24 a))
section
variable {p:Ap} {g:GR} {c:List (List Int)} {v:Nat} {F:Int->Int->Int} {eF eN:E} {N:Int}
def Wo (p:Ap) (g:GR) (c:List (List Int)) (v:Nat) (eF:E) (F:Int->Int->Int):Prop:=∀i:Nat,i<(row g v).length->eF.den (Vv (bO p g,c,(v:Int),[])) (row g v).length (i:Int)=F (sW g c v i) (fU (row g v) i).2
theorem Om (h:Wo p g c v eF F):((List.range (row g v).length).map λq=>eF.den (Vv (bO p g,c,(v:Int),[])) (row g v).length ((q:Nat):Int))=FL g F c v:=List.map_congr_left λi a=>h i (zAf.1 a)
theorem Vh (h:Wo p g c v eF F) (a:iF (bO p g) c v eN=N):iF (bO p g) c v (WJ eF eN)=min N (vN (FL g F c v)):=by
 have e:iF (bO p g) c v (WJ eF eN)=if sO (decide (vN ((List.range (row g v).length).map λq=>eF.den (Vv (bO p g,c,(v:Int),[])) (row g v).length ((q:Nat):Int))<iF (bO p g) c v eN))≠0 then vN ((List.range (row g v).length).map λq=>eF.den (Vv (bO p g,c,(v:Int),[])) (row g v).length ((q:Nat):Int))else iF (bO p g) c v eN:=rfl;rw[e,Om h,a];by_cases q:vN (FL g F c v)<N
 ·rw[if_pos (by rw[uD];exact zA9 q)];omega
 ·rw[if_neg (by rw[uD];simpa using q)];omega
theorem Pj (h:Wo p g c v eF F):iF (bO p g) c v (Rb eF)=iL ((FL g F c v).map λy=>sO (decide (y=vN (FL g F c v)))):=by
 have e:iF (bO p g) c v (Rb eF)=iL ((List.range (row g v).length).map λi=>sO (decide (eF.den (Vv (bO p g,c,(v:Int),[])) (row g v).length ((i:Nat):Int)=vN ((List.range (row g v).length).map λq=>eF.den (Vv (bO p g,c,(v:Int),[])) (row g v).length ((q:Nat):Int))))):=rfl;rw[e,Om h];congr 1;have:FL g F c v=(List.range (row g v).length).map λi=>F (sW g c v i) (fU (row g v) i).2:=rfl
 conv=>rhs;rw[this,List.map_map]
 refine List.map_congr_left λi a=> ?_;show _=sO (decide (F (sW g c v i) (fU (row g v) i).2=_));rw[h i (zAf.1 a)];rfl
end
theorem BJ {x:Int} (a : -1000000<=x) (b:x<=1000000):Uh (wI .i64 x)=x:=by
 rw[wr (by omega) (by omega)];unfold Uh;omega
theorem tJ {g:GR} (b:VG g) {v i u:Nat} {w:Int} (d:v<g.2.length) (c:Lk g v i u w):1<=w∧w<=15:=by
 obtain⟨a,_,_,rfl⟩:=c;exact((b.node v d).links i a).2.2.1
theorem MG {g:GR} (a:VG g) (j:Cv g) (F:Int->Int->Int):∀v,v<g.2.length->∃y,Wv g F v y:=by
 have e:∀k v,uY g 0 k v->∃y,Wv g F v y:=by
  intro k
  induction k with
  |zero=>rintro v ⟨rfl,_⟩;exact⟨0,.zero⟩
  |succ k o=>
   rintro v ⟨u,f,h⟩;obtain⟨y,n⟩:=o u f;have c:=uY.lt a f;have d:=a.adj_lt c h;obtain⟨i,l,b⟩:=a.back c h;exact⟨_,.link (u:=u) (v:=v) (i:=i) (w:=(fU (row g v) i).2) n d ⟨l,c,b,rfl⟩⟩
 intro v d;obtain⟨k,m⟩:=j 0 v (by have:=a.n1;omega) d;exact e k v m
def eBX:E:= .ite (.bi 37 (.ag 24 (.lf 12 0)) (.lf 6 0)) (.bi 33 (.ag 24 (.lf 12 0)) (.lf 1 1)) (.lf 6 0)
def eBY:E:=Rb (.lf 12 0)
def fB (y _w:Int):Int:=y+1
def fP (y w:Int):Int:=y+w
def fW (n:Nat) (y w:Int):Int:=max (y+1) (w*(n:Int))
def ePF:E:= .bi 33 (.lf 12 0) (.lf 16 0)
def ePN:E:= .bi 30 (.lf 1 15) (.lf 6 0)
def eWF:E:= .ite (.bi 39 (.bi 33 (.lf 12 0) (.lf 1 1)) (.bi 30 (.lf 16 0) (.lf 6 0))) (.bi 33 (.lf 12 0) (.lf 1 1)) (.bi 30 (.lf 16 0) (.lf 6 0))
def eWN:E:= .bi 30 (.lf 1 16) (.lf 6 0)
def RBf:List RL:=RY eBX eBY
def RPa:List RL:=RY (WJ ePF ePN) (Rb ePF)
def RWi:List RL:=RY (WJ eWF eWN) (Rb eWF)
theorem adw:wL 2 RBf=true:=by decide +kernel
theorem adx:wL 2 RPa=true:=by decide +kernel
theorem ady:wL 2 RWi=true:=by decide +kernel
def Cy (a:ByteArray) (b:ByteArray) (k:Int):List Gu:=[(a,1,0,0,k,0),(b,3,0,0,0,0)]
theorem aaN {g:GR} (e:VG g) (a b:ByteArray) {k:Int} (f:0<=k) (h:k<=16):CW g (Cy a b k):=by
 have i:=e.n24;have l:=e.n1;have m:k*(g.2.length:Int)<=16*24:=Int.mul_le_mul h (by omega) (by omega) (by omega);have j:0<=k*(g.2.length:Int):=Int.mul_nonneg f (by omega);refine⟨by show 2<=20;omega,λx c=> ?_,λx c=> ?_,λx c d=> ?_⟩
 ·have c:x<2:=c;rcases(show x=0∨x=1 by omega)with rfl|rfl
  ·show(-100000<=(0:Int)∧(0:Int)<=100000)∧(0<=k∧k<=100000)∧(0<=(0:Int)∧(0:Int)<=100000)
   omega
  ·show(-100000<=(0:Int)∧(0:Int)<=100000)∧(0<=(0:Int)∧(0:Int)<=100000)∧(0<=(0:Int)∧(0:Int)<=100000)
   omega
 ·have c:x<2:=c;rcases(show x=0∨x=1 by omega)with rfl|rfl
  ·exact .inl Z
  ·exact .inr (.inr Z)
 ·have c:x<2:=c;rcases(show x=0∨x=1 by omega)with rfl|rfl
  ·show -100000<=(0:Int)∧(0:Int)<=(0:Int)+k*(g.2.length:Int)+0*lY g g.1.length∧(0:Int)+k*(g.2.length:Int)+0*lY g g.1.length - 0+1<=4096;rw[Int.zero_mul];omega
  ·exact absurd d (by show¬(3:Int)=1;decide)
theorem acO (g:GR) (a b:ByteArray) (k:Int) (v:Nat):hi g (at' (Cy a b k) ((0:Nat):Int)) v=k*(g.2.length:Int):=by
 show(0:Int)+k*(g.2.length:Int)+0*lY g g.1.length=_;rw[Int.zero_mul];omega
theorem Iv {g:GR} (d:VG g) {a b:ByteArray} {k:Int} {c:List (List Int)} (h:HU g c (Cy a b k)) {v i:Nat} (l:v<g.2.length) (j:i<(row g v).length):0<=sW g c v i∧sW g c v i<=k*(g.2.length:Int):=by
 obtain⟨u,w,f⟩:=d.lk l j;obtain⟨e,_⟩:=Iq d f c;have:=h.ok u f.2.1 0 (by show 0<2;omega);rw[acO]at this;rw[e];exact this
theorem agk {g:GR} (j:VG g) (I:Cv g) (a b:ByteArray):Tm g (Cy a b 1) eBX eBY fB 1 (1*(g.2.length:Int)):=by
 have H:=j.n24;have K:=j.n1;have F:kZ g fB 1:=⟨by omega,λy N w h=>by unfold fB;omega,λv i u w y _ _ h=>by unfold fB;omega,MG j I fB⟩
 refine⟨F,λv m=> ?_,by omega,rfl,aaN j a b (by omega) (by omega),λv=>rfl,acO g a b 1,λv=>rfl,λv=>rfl,λp c v D m t=> ?_,λp c v D m t=> ?_⟩
 ·have:=Dt F (b:=λk=>(k:Int)) (by simp) (λv i u w k _ _ y s=>by unfold fB;push_cast;omega) (λk=>by push_cast;omega) g.2.length v m (Nat.le_of_lt (VJ m));omega
 ·have C:((List.range (row g v).length).map λq=>sW g c v q).map (· + 1)=FL g fB c v:=by rw[List.map_map];rfl
  have e:iF (bO p g) c v eBX=if sO (decide (vN ((List.range (row g v).length).map λq=>sW g c v q)<(g.1.length:Int)))≠0 then Uh (wI .i64 (vN ((List.range (row g v).length).map λq=>sW g c v q)+1))else(g.1.length:Int):=rfl;rw[e,j.len,<-C];have d:∀x∈(List.range (row g v).length).map λq=>sW g c v q,0<=x∧x<=(g.2.length:Int):=λx n=>by
   obtain⟨i,f,rfl⟩:=zAn.1 n;have:=Iv j D m (zAf.1 f);omega
  generalize (List.range (row g v).length).map (λq=>sW g c v q)=l at d ⊢;rcases Dx l with q|q
  ·have J:l=[]∨∃x,x∈l:=by cases l with|nil=>exact .inl Z|cons x r=>exact .inr ⟨x,zA7⟩
   rcases J with rfl|⟨x,n⟩
   ·have t:vN []=1073741824:=rfl;have A:vN (([]:List Int).map (· + 1))=1073741824:=rfl;rw[t,A,if_neg (by rw[uD,zA1];omega)];omega
   ·have:=CN n;have:=d x n;omega
  ·have A:=d _ q;have B:vN (l.map (· + 1))=vN l+1:=by
    have G:=CN (zAn.2 ⟨_,q,rfl⟩:vN l+1∈l.map (· + 1));rcases Dx (l.map (· + 1))with z|z
    ·omega
    ·obtain⟨y,s,e⟩:=zAn.1 z;have:=CN s;omega
   rw[B];by_cases o:vN l<(g.2.length:Int)
   ·rw[if_pos (by rw[uD];exact zA9 o),BJ (by omega) (by omega)];omega
   ·rw[if_neg (by rw[uD];simpa using o)];omega
 ·have L:Wo p g c v (.lf 12 0) (λy _=>y):=λi f=>rfl;have e:=Pj L;show iF (bO p g) c v (Rb (.lf 12 0))=_;rw[e];congr 1;unfold FL;rw[List.map_map,List.map_map];refine List.map_congr_left λi f=> ?_;have f:=zAf.1 f;show sO (decide (sW g c v i=vN ((List.range (row g v).length).map λi=>sW g c v i)))=sO (decide (sW g c v i+1=vN ((List.range (row g v).length).map λi=>sW g c v i+1)));have C:((List.range (row g v).length).map λq=>sW g c v q).map (· + 1)=(List.range (row g v).length).map λi=>sW g c v i+1:=by rw[List.map_map];rfl
  rw[<-C];have E:sW g c v i∈(List.range (row g v).length).map λq=>sW g c v q:=zAn.2 ⟨i,zAf.2 f,rfl⟩;have d:∀x∈(List.range (row g v).length).map λq=>sW g c v q,0<=x∧x<=(g.2.length:Int):=λx n=>by
   obtain⟨i,f,rfl⟩:=zAn.1 n;have:=Iv j D m (zAf.1 f);omega
  generalize (List.range (row g v).length).map (λq=>sW g c v q)=l at d E ⊢;have B:vN (l.map (· + 1))=vN l+1:=by
   have A:=CN E;have M:=d _ E;rcases Dx l with q|q
   ·omega
   ·have G:=CN (zAn.2 ⟨_,q,rfl⟩:vN l+1∈l.map (· + 1));rcases Dx (l.map (· + 1))with z|z
    ·have:=d _ q;omega
    ·obtain⟨y,s,e⟩:=zAn.1 z;have:=CN s;omega
  rw[B];congr 1;exact decide_eq_decide.2 (by omega)
theorem ahI {g:GR} (e:VG g) (r:Cv g) (a b:ByteArray) {L:Int} (s:1<=L) (z:∀v i u w,v<g.2.length->Lk g v i u w->L<=w):Tm g (Cy a b 15) (WJ ePF ePN) (Rb ePF) fP L (15*(g.2.length:Int)):=by
 have q:=e.n24;have x:=e.n1;have l:kZ g fP L:=⟨s,λy D w h=>by unfold fP;omega,λv i u w y d f h=>by have:=z v i u w d f;unfold fP;omega,MG e r fP⟩
 have m:∀(p:Ap) c v,HU g c (Cy a b 15)->v<g.2.length->Wo p g c v ePF fP:=λp c v j d i n=>by
  show Uh (wI .i64 (sW g c v i+(fU (row g v) i).2))=sW g c v i+(fU (row g v) i).2;have A:=Iv e j d n;obtain⟨u,w,f⟩:=e.lk d n;have B:=tJ e d f;rw[f.2.2.2];exact BJ (by omega) (by omega)
 have t:∀(p:Ap) c (v:Nat),iF (bO p g) c v ePN=15*(g.2.length:Int):=λp c v=>by
  show Uh (wI .i64 (15*(g.1.length:Int)))=_;rw[e.len];exact BJ (by omega) (by omega)
 refine⟨l,λv d=> ?_,by omega,rfl,aaN e a b (by omega) (by omega),λv=>rfl,acO g a b 15,λv=>rfl,λv=>rfl,λp c v j d o=>Vh (m p c v j d) (t p c v),λp c v j d o=>Pj (m p c v j d)⟩
 have:=Dt l (b:=λk=>15*(k:Int)) (by simp) (λv i u w k d f y C=>by have:=tJ e d f;unfold fP;push_cast;omega) (λk=>by push_cast;omega) g.2.length v d (Nat.le_of_lt (VJ d));exact this
theorem ahJ {g:GR} (e:VG g) (A:Cv g) (a b:ByteArray):Tm g (Cy a b 16) (WJ eWF eWN) (Rb eWF) (fW g.2.length) 1 (16*(g.2.length:Int)):=by
 have z:=e.n24;have C:=e.n1;have m:∀w:Int,1<=w->w<=15->0<=w*(g.2.length:Int)∧w*(g.2.length:Int)<=15*(g.2.length:Int):=λw t f=>⟨Int.mul_nonneg (by omega) (by omega),Int.mul_le_mul_of_nonneg_right f (by omega)⟩
 have n:kZ g (fW g.2.length) 1:=⟨by omega,λy F w h=>by unfold fW;omega,λv i u w y d l h=>by unfold fW;omega,MG e A _⟩
 have o:∀(p:Ap) c v,HU g c (Cy a b 16)->v<g.2.length->Wo p g c v eWF (fW g.2.length):=λp c v j d i r=>by
  have t:=Iv e j d r;obtain⟨u,w,l⟩:=e.lk d r;have f:=tJ e d l;have D:=m w f.1 f.2;show(if sO (decide (Uh (wI .i64 ((fU (row g v) i).2*(g.1.length:Int)))<Uh (wI .i64 (sW g c v i+1))))≠0 then Uh (wI .i64 (sW g c v i+1))else Uh (wI .i64 ((fU (row g v) i).2*(g.1.length:Int))))=fW g.2.length (sW g c v i) (fU (row g v) i).2;rw[l.2.2.2,e.len,BJ (x:=w*_) (by omega) (by omega),BJ (x:=sW g c v i+1) (by omega) (by omega)];unfold fW;by_cases q:w*(g.2.length:Int)<sW g c v i+1
  ·rw[if_pos (by rw[uD];exact zA9 q)];omega
  ·rw[if_neg (by rw[uD];simpa using q)];omega
 have B:∀(p:Ap) c (v:Nat),iF (bO p g) c v eWN=16*(g.2.length:Int):=λp c v=>by
  show Uh (wI .i64 (16*(g.1.length:Int)))=_;rw[e.len];exact BJ (by omega) (by omega)
 refine⟨n,λv d=> ?_,by omega,rfl,aaN e a b (by omega) (by omega),λv=>rfl,acO g a b 16,λv=>rfl,λv=>rfl,λp c v j d s=>Vh (o p c v j d) (B p c v),λp c v j d s=>Pj (o p c v j d)⟩
 have:=Dt n (b:=λk=>15*(g.2.length:Int)+(k:Int)) (by simp;omega) (λv i u w k d l y E=>by
  have f:=tJ e d l;have:=m w f.1 f.2;unfold fW;push_cast;omega) (λk=>by push_cast;omega) g.2.length v d (Nat.le_of_lt (VJ d))
 omega
structure BF (g:GR) (F:Int->Int->Int) (r v j:Nat) (R:aO):Prop where
 len:R.length=g.2.length
 ge:∀x:Nat,x<g.2.length->jP g F x<=at' R (x:Int)
 done:∀x:Nat,x<g.2.length->rk g F x<=r->at' R (x:Int)=jP g F x
 now:∀x:Nat,x<v->x<g.2.length->rk g F x<=r+1->at' R (x:Int)=jP g F x
 here:∀i u w,i<j->Lk g v i u w->rk g F u<=r->at' R (v:Int)<=F (jP g F u) w
section
variable {g:GR} {F:Int->Int->Int} {L:Int} {r v j:Nat} {R:List Int}
theorem BF.relax (p:kZ g F L) (q:v<g.2.length) (h:BF g F r v j R) {u:Nat} {w:Int} (m:Lk g v j u w):BF g F r v (j+1) (R.set v (min (at' R (v:Int)) (F (at' R (u:Int)) w))):=by
 have l:=h.len;have d:∀x:Nat,x<g.2.length->at' (R.set v (min (at' R (v:Int)) (F (at' R (u:Int)) w))) (x:Int)=if x=v then min (at' R (v:Int)) (F (at' R (u:Int)) w)else at' R (x:Int):=λx c=>by
  rw[qQ _ _ _ _ (by omega)]
 have A:jP g F v<=F (at' R (u:Int)) w:=by
  have a:=p.mono _ _ w (h.ge u m.2.1);have b:=TV p q m;omega
 refine⟨by simpa using l,λx c=> ?_,λx c f=> ?_,λx n c f=> ?_,λi s B E k f=> ?_⟩
 ·rw[d x c];split
  ·rename_i e;subst e;have:=h.ge x c;omega
  ·exact h.ge x c
 ·rw[d x c];split
  ·rename_i e;subst e;have:=h.done x c f;omega
  ·exact h.done x c f
 ·rw[d x c,if_neg (by omega)];exact h.now x n c f
 ·rw[d v q,if_pos Z];by_cases e:i=j
  ·subst e;obtain⟨_,_,C,t⟩:=m;obtain⟨_,y,D,o⟩:=k;have z:u=s:=by omega
   subst z;rw[t]at o;subst o;have:=h.done u y f;rw[this];omega
  ·have:=h.here i s B (by omega) k f;omega
theorem BF.node (b:kZ g F L) (A:v<g.2.length) (h:BF g F r v (row g v).length R):BF g F r (v+1) 0 R:=by
 refine⟨h.len,h.ge,h.done,λx o a m=> ?_,λi u w l=>absurd l (Nat.not_lt_zero i)⟩
 by_cases e:x=v
 ·subst e;by_cases k:x=0
  ·subst k;by_cases q:rk g F 0<=r
   ·exact h.done 0 a q
   ·have p:=Cb b a;have f:∀n,n<=g.2.length->Bu (jP g F) (jP g F 0) n=0:=by
     intro n
     induction n with
     |zero=>intro _;rfl
     |succ n s=>
      intro z;unfold Bu;rw[s (by omega),if_neg (by rw[p];have:=lV b (show n<g.2.length by omega);omega)]
    exact absurd (show rk g F 0<=r by have:rk g F 0=0:=f _ (zAe _);omega) q
  ·obtain⟨i,u,w,c,y,d⟩:=Gf b a k;have t:=PT b c.2.1 d;have:=h.here i u w c.1 c (by omega);have:=h.ge x a;omega
 ·exact h.now x (by omega) a m
theorem BF.round (h:BF g F r g.2.length 0 R):BF g F (r+1) 0 0 R:=
 ⟨h.len,h.ge,λx a c=>h.now x a a c,λx a=>absurd a (Nat.not_lt_zero x),λi u w b=>absurd b (Nat.not_lt_zero i)⟩
theorem BF.fin (h:BF g F g.2.length 0 0 R) {x:Nat} (a:x<g.2.length):at' R (x:Int)=jP g F x:=h.done x a (Nat.le_of_lt (VJ a))
theorem BF.start (c:kZ g F L) (k:R.length=g.2.length) (d:0<g.2.length) (l:at' R 0=0) (f:∀x:Nat,x<g.2.length->x≠0->jP g F x<=at' R (x:Int)):BF g F 0 0 0 R:=by
 have m:=Cb c d;have b:at' R ((0:Nat):Int)=0:=l;refine⟨k,λx a=> ?_,λx a n=> ?_,λx a=>absurd a (Nat.not_lt_zero x),λi u w h=>absurd h (Nat.not_lt_zero i)⟩
 ·by_cases e:x=0
  ·subst e;rw[b];omega
  ·exact f x a e
 ·obtain rfl:=PU c a (by omega);rw[b];omega
end
section
variable {g:GR} {F:Int->Int->Int} {L:Int}
theorem ade (c:kZ g F L) {v:Nat} (e:v<g.2.length) {y:Int} (h:Wv g F v y) (d:∀z,Wv g F v z->y<=z):jP g F v=y:=by
 obtain⟨a,b⟩:=Ca c e;have:=b y h;have:=d _ a;omega
theorem adP (c:VG g) {v:Nat} {y:Int} (h:Wv g fB v y):∃k:Nat,y=(k:Int)∧uY g 0 k v:=by
 induction h with
 |zero=>exact⟨0,rfl,rfl,by have:=c.n1;omega⟩
 | @link u v i y w h hv hl ih=>
  obtain⟨k,rfl,d⟩:=ih;obtain⟨e,b,a⟩:=c.back hv ⟨i,hl.1,hl.2.2.1⟩;exact⟨k+1,by unfold fB;push_cast;rfl,u,d,e,b,a⟩
theorem Wb (a:VG g):∀{k v:Nat},uY g 0 k v->Wv g fB v (k:Int)
 |0,v,⟨h,_⟩=>by subst h;exact .zero
 |k+1,v,⟨u,hw,ha⟩=>by
  have c:=uY.lt a hw;have f:=a.adj_lt c ha;obtain⟨i,d,b⟩:=a.back c ha;have:=Wv.link (Wb a hw) f (i:=i) (w:=(fU (row g v) i).2) ⟨d,c,b,rfl⟩;have e:fB (k:Int) (fU (row g v) i).2=((k+1:Nat):Int):=by unfold fB;push_cast;rfl
  rw[e]at this;exact this
theorem Rp (a:VG g) (f:kZ g fB 1) {d:List Int} (e:BK g 0 d) (c:∀v,v<g.2.length->0<=D d v) {v:Nat} (b:v<g.2.length):jP g fB v=D d v:=by
 refine ade f b ?_ λz i=> ?_
 ·have:=Wb a (e.pos a b (c v b));rwa[show(((D d v).toNat:Nat):Int)=D d v from by have:=c v b;omega]at this
 ·obtain⟨k,rfl,h⟩:=adP a i;exact(BK.le a e h).2
theorem Re {n:Nat} {P:Nat->Prop} [DecidablePred P] {i:Nat} (a:i<n) (h:P i) (c:∀j,j<i->¬P j):iL ((List.range n).map λq=>sO (decide (P q)))=(i:Int):=by
 refine AV (l:=(List.range n).map λq=>sO (decide (P q))) (i:=i) (by simpa using a) ?_ λj b=> ?_
 ·rw[Eh _ a,zA9 h];decide
 ·rw[Eh _ (by omega),zA8 (c j b)];rfl
theorem Mc {n:Nat} {P:Nat->Prop} [DecidablePred P] (a:∀j,j<n->¬P j):iL ((List.range n).map λq=>sO (decide (P q))) = -1:=by
 have e:((List.range n).map λq=>sO (decide (P q))).findIdx? nz=none:=by
  rw[List.findIdx?_eq_none_iff];intro x c;obtain⟨q,b,rfl⟩:=zAn.1 c;rw[zA8 (a q (zAf.1 b))];rfl
 unfold iL;rw[e]
theorem Xi {m l:Int} (b:1<=l) (c:0<=m) {x:Int} (d:x<=m):x<(m / l+1)*l:=by
 have a:=Int.lt_ediv_add_one_mul_self m (show 0<l by omega);omega
end
theorem Va {p:Ap} {g:GR} {a:List Gu} {R:List RL} {b:List (List Int)} {k:Nat} (h:kU (bO p g) a R (cS p g a R b k) (Rc (bO p g) R (cS p g a R b k))=cS p g a R b k):∀m,cS p g a R b (k+m)=cS p g a R b k
 |0=>rfl
 |m+1=>by
  show kU (bO p g) a R (cS p g a R b (k+m)) (Rc (bO p g) R (cS p g a R b (k+m)))=_;rw[Va h m,h]
end Go.Proofs.YtcnnfkapmjhnaaaGreatDoor
namespace Go.Proofs.YtcnnfkapmjhnaaaGreatDoor
open Go.Sx
def sP  (a:Bool):Option Bool:=
 some (a)
def zP (U:Nat) (a:Int):Option Bool:=
 if(1:Int)<=a then(sP  (decide (a<=(4:Int))))else(sP  (false))
theorem afb:aS Tryz.prog 99:=Tryz.call99
theorem MM (U:Nat) {b:Int} (r:Bool) (h:zP U b=some r):
  aY Tryz.prog 99 #[vI (b)] [] (λx:Unit=>vB (r)) (λx l=>l) (λ_ l=>l):=by
 refine aY.of Tryz.func99 Z Tryz.ntmps99 Z λc=>?_;refine aP<|aC Z<|aJ<|aK<|eJ (λa=>sP  a=some r) (λa d=>[(2,vB (a))]) (λa d=>[]) ?_ ?_
 ·refine aQ<|aA Z<|aD (Bo Z Z) Z<|aA Z ?_;refine Eb h Z (λ_ h=>?_) λ_ h=>?_
  ·refine eG Z<|aW Z (Dn Z Z) Z<|eK Z<|aC Z<|aJ ?_;exact iH (decide (b<=(4:Int))) () h SF Z
  refine aL Z<|aL Z<|fY Z<|aC Z<|aJ ?_;exact iH (false) () h SF Z
 intro a d h;unfold sP at h;refine aU ?_;cases h;exact kY Z
def Bb (U:Nat) (a:DG) (b:b_) (d:Int) (e:bX) (f:Int):Option (Int):=
 Option.bind (uL U ((a.1,a.2.1,a.2.2)) ((b.1,b.2)) e) λc=>(if c≠(0:Int)then(some (c))else(Option.bind (zP U d) λg=>(if(!g)=true then(some (12:Int))else(if(4096:Int)<f then(some (3:Int))else(some (0:Int))))))
theorem aeK:aS Tryz.prog 21:=Tryz.call21
theorem Ss (U:Nat) {a:DG} {g:b_} {j:Int} {k:bX} {m:Int} (b:Value)  (d:Value)  (e:Value)  (f:Value)  (n:jO)  (i:Value)  (o:sY) (r:Int) (h:Bb U a g j k m=some r):
  aY Tryz.prog 21 #[Value.agg #[vS (a.1),b,d],Value.agg #[e,f],vI (j),i,vI (m)] [Sl aX b a.2.1,Sl aM d a.2.2,PF (Value.agg #[vS a.1,b,d]),Sl bP e g.1,S2 aV f n g.2,S2 bP i o k] (λx:Unit=>vI (r)) (λx l=>l) (λ_ l=>l):=by
 refine aY.of Tryz.func21 Z Tryz.ntmps21 Z λc=>?_;refine aP<|aG (aI.box (cs:=[vS (a.1),b,d]) Z Z) Z λu=>aG (aI.box (cs:=[e,f]) Z Z) Z λv=>aC Z<|aJ<|aK<|aP<|cA 1 Z<|cA 0 Z<|aA Z<|dV h λp s h=>aG (zBb afa (MR U b d e f n i o p s) Z (kA [0,1,2,3,4,5] Z)) Z λw=>aC Z<|aJ<|aP<|aA Z<|pC Z<|aJ ?_;refine dK h Z (λh=>?_) λh=>?_
 ·refine aP<|aA Z<|aC Z<|aJ<|aU<|aH ?_;cases h;exact sB Z
 refine cG<|aK<|aP<|aA Z<|dV h λq t h=>aG (zBb afb (MM U  q t) Z .nil) Z λy=>aD (kB Z) Z<|aJ ?_;refine yW h Z (λ_ h=>?_) λ_ h=>?_
 ·refine aP<|aC Z<|aJ<|aU<|aH ?_;cases h;exact sB Z
 refine cG<|aK<|aP<|aA Z<|aD (Bp Z Z) Z<|aJ ?_;refine dK h Z (λh=>?_) λh=>?_
 ·refine aP<|aC Z<|aJ<|aU<|aH ?_;cases h;exact sB Z
 refine cG<|aP<|aC Z<|aJ<|aU ?_;cases h;exact sB Z
def vK (U:Nat) (a:bX) (b:Int) (c:He):Option (Unit):=
 some (())
theorem Yt:aS Tryz.prog 23:=Tryz.call23
theorem IP (U:Nat) {b:bX} {d:Int} {a:He} (e:Value)  (f:sY) (r:Unit) (h:vK U b d a=some r):
  aY Tryz.prog 23 #[e,vU (d),Value.agg #[vI (a.1),vI (a.2.1),vI (a.2.2.1),vI (a.2.2.2.1),vU (a.2.2.2.2)]] [S2 bP e f b] (λx:Unit=>Value.tuple #[]) (λx l=>l) (λ_ l=>l):=by
 refine aY.of Tryz.func23 Z Tryz.ntmps23 Z λc=>?_;unfold vK at h;refine aQ<|aG (aI.box (cs:=[vI (a.1),vI (a.2.1),vI (a.2.2.1),vI (a.2.2.2.1),vU (a.2.2.2.2)]) Z Z) Z λg=>eV ?_;cases h;exact FW () Z Z .normal (.inr Z) .nil aB.nil
def xO (U:Nat) (a:Int):Option ((Int×Int×Int×Int×Int)):=
 some (((0:Int),(0:Int),(0:Int),(0:Int),(eW .u32 a (16777215:Int))))
theorem abO:aS Tryz.prog 186:=Tryz.call186
theorem Kz (U:Nat) {a:Int} (r:(Int×Int×Int×Int×Int)) (h:xO U a=some r):
  aY Tryz.prog 186 #[vU (a)] [] (λx:Unit=>Value.agg #[vI (r.1),vI (r.2.1),vI (r.2.2.1),vI (r.2.2.2.1),vU (r.2.2.2.2)]) (λx l=>l) (λ_ l=>l):=by
 refine aY.of Tryz.func186 Z Tryz.ntmps186 Z λc=>?_;unfold xO at h;refine aP<|aG (aI.alloc (cs:=vD3) Z Z) Z λb=>aJ<|aP<|aA Z<|Bt Z ?_;refine aD (Yd (r:=Value.agg #[vI (0:Int),vI (0:Int),vI (0:Int),vI (0:Int),vU (eW .u32 a (16777215:Int))]) Z (by intro w;simp[Instr.build,Instr.fill,dX,dA,cM,dY,dZ,dB,eQ])) Z ?_;refine bK 0 (vs:=[vI (0:Int),vI (0:Int),vI (0:Int),vI (0:Int),vU (eW .u32 a (16777215:Int))]) Z Z Z Z Z Z<|aJ<|aU ?_;cases h;exact eR () Z Z (RV.cell 0 Z Z Z Z) .nil aB.nil
def Dd  (a:VR):Option Ez:=
 some (((a.2.2.2.2.2.2.1,a.2.2.2.2.2.2.2.1,a.2.2.2.2.2.2.2.2,((a.1,a.2.1,a.2.2.1,a.2.2.2.1,a.2.2.2.2.1)))),a.2.2.2.2.2.1)
def AJ  (a:aO×aO×bX×Int×Int×Int×Int×Int×Int):Option Ez:=
 Dd  (a.2.2.2.1,a.2.2.2.2.1,a.2.2.2.2.2.1,a.2.2.2.2.2.2.1,a.2.2.2.2.2.2.2.1,a.2.2.2.2.2.2.2.2,a.1,a.2.1,a.2.2.1)
def wX  (a:aO×Int×Int×Int×Int×Int×bX×aO):Option Ez:=
 AJ  (a.2.2.2.2.2.2.2,a.1,a.2.2.2.2.2.2.1,a.2.1,a.2.2.1,a.2.2.2.1,a.2.2.2.2.1,a.2.2.2.2.2.1,(0:Int))
def De (U:Nat) (f:DG) (j:b_) (l:Int) (c:Int×aO×g_×Int×bX) (a:Int×aO×Int×Int×Int×Int×Int×Int×bX×aO) (h:(Int×aO×Int×Int×Int×Int×Int×Int×bX×aO)->Option Ez) (d:Int):Option Ez:=
 if¬(a.1≠(0:Int))then(wX  (a.2.1,a.2.2.2.1,a.2.2.2.2.1,a.2.2.2.2.2.1,a.2.2.2.2.2.2.1,a.2.2.2.2.2.2.2.1,a.2.2.2.2.2.2.2.2.1,a.2.2.2.2.2.2.2.2.2))else(Option.bind (gQ U c.2.1 l a.1 d) λi=>(if(!i)=true then(AJ  (([]:aO),([]:aO),([]:bX),(0:Int),(0:Int),(0:Int),(0:Int),(0:Int),(11:Int)))else(Option.bind (kF U ((((f.1,f.2.1,f.2.2)),((((f.1,f.2.1,f.2.2)),((j.1,j.2)),c.2.2.2.1,c.2.2.2.2)),c.2.2.1)) a.2.2.2.2.2.2.2.2.1 d) λg=>(Option.bind (fE U ((((f.1,f.2.1,f.2.2)),((((f.1,f.2.1,f.2.2)),((j.1,j.2)),c.2.2.2.1,c.2.2.2.2)),c.2.2.1)) g) λe=>(Option.bind (jH U ((a.2.2.2.1,a.2.2.2.2.1,a.2.2.2.2.2.1,a.2.2.2.2.2.2.1,a.2.2.2.2.2.2.2.1)) d (eW .u32 e c.1)) λb=>(Option.bind (vK U g (eW .u32 e c.1) ((b.1.1,b.1.2.1,b.1.2.2.1,b.1.2.2.2.1,b.1.2.2.2.2))) λk=>(ck ((a.2.2.2.2.2.2.2.2.2.length:Int)+(List.length ([d]):Int)<=1099511627) (ck ((a.2.1.length:Int)+(List.length ([(eW .u32 e c.1)]):Int)<=1099511627) (h ((eW .u32 e c.1),(a.2.1++([(eW .u32 e c.1)])),(wI .i64 (a.2.2.1+(1:Int))),b.1.1,b.1.2.1,b.1.2.2.1,b.1.2.2.2.1,b.1.2.2.2.2,g,(a.2.2.2.2.2.2.2.2.2++[d])))))))))))
def wZ (U:Nat) (g:DG) (h:b_) (f:Int) (e:aO) (c:Int×aO×g_×Int×bX) (a:Int×aO×Int×Int×Int×Int×Int×Int×bX×aO) (b:(Int×aO×Int×Int×Int×Int×Int×Int×bX×aO)->Option Ez):Option Ez:=
 if a.2.2.1<(e.length:Int)then(ck (0<=a.2.2.1∧a.2.2.1<(e.length:Int)) (Option.bind (dO U c.2.1 f a.1 (at' e a.2.2.1)) λd=>(De U g h f c a b (d))))else(wX  (a.2.1,a.2.2.2.1,a.2.2.2.2.1,a.2.2.2.2.2.1,a.2.2.2.2.2.2.1,a.2.2.2.2.2.2.2.1,a.2.2.2.2.2.2.2.2.1,a.2.2.2.2.2.2.2.2.2))
def Dc (U:Nat) (d:DG) (f:b_) (g:Int) (h:bX) (i:aO) (b:Int×aO×g_×Int×bX):Option Ez:=
 Option.bind (wT U h) λe=>(Option.bind (fE U ((((d.1,d.2.1,d.2.2)),((((d.1,d.2.1,d.2.2)),((f.1,f.2)),b.2.2.2.1,b.2.2.2.2)),b.2.2.1)) e) λc=>(Option.bind (xO U (eW .u32 c b.1)) λa=>(Option.bind (vK U e (eW .u32 c b.1) ((a.1,a.2.1,a.2.2.1,a.2.2.2.1,a.2.2.2.2))) λj=>(ck ((List.length ([]:aO):Int)+(List.length ([(eW .u32 c b.1)]):Int)<=1099511627) (bH (wZ U d f g i b) U ((eW .u32 c b.1),(([]:aO)++([(eW .u32 c b.1)])),(0:Int),a.1,a.2.1,a.2.2.1,a.2.2.2.1,a.2.2.2.2,e,([]:aO)))))))
def AK (U:Nat) (e:DG) (b:b_) (f:Int) (g:bX) (h:aO) (a:g_×Int×bX):Option Ez:=
 Option.bind (pQ U ((b.1,b.2))) λc=>(Option.bind (A_ U ((b.1,b.2))) λd=>(Dc U e b f g h (d,c,a.1,a.2.1,a.2.2)))
def AL (U:Nat) (c:DG) (d:b_) (e:Int) (f:bX) (g:aO) (a:Int×bX):Option Ez:=
 Option.bind (oZ U ((c.1,c.2.1,c.2.2)) ((d.1,d.2))) λb=>(AK U c d e f g (b,a.1,a.2))
def wY (U:Nat) (b:DG) (c:b_) (d:Int) (e:bX) (f:aO) (a:Int×bX):Option Ez:=
 AL U b c d e f (a.1,a.2)
def AM (d:b_) (a:Int×Int×bX) (b:(Int×Int×bX)->Option Ez) (c:bX):Option Ez:=
 b ((wI .i64 (a.1+(1:Int))),(max a.2.1 (at' d.1 a.1)),c)
def tG (U:Nat) (f:b_) (a:Int×Int×bX) (d:(Int×Int×bX)->Option Ez) (b:Int×bX) (e:(Int×bX)->Option Ez):Option Ez:=
 if b.1<((at' f.2 a.1).length:Int)then(ck (0<=b.1∧b.1<((at' f.2 a.1).length:Int)) (ck (0<=a.1∧a.1<(b.2.length:Int)) (Option.bind (uJ U ((f.1,f.2)) ((at' (at' f.2 a.1) b.1).1) a.1) λc=>(ck (((at' b.2 a.1).length:Int)+(List.length ([c]):Int)<=1099511627) (ck (0<=a.1∧a.1<((List.set b.2 (Int.toNat a.1) ((at' b.2 a.1)++[c])).length:Int)) (e ((wI .i64 (b.1+(1:Int))),(List.set b.2 (Int.toNat a.1) ((at' b.2 a.1)++[c])))))))))else(AM f a d (b.2))
def nW (U:Nat) (d:DG) (c:b_) (e:Int) (f:bX) (g:aO) (a:Int×Int×bX) (b:(Int×Int×bX)->Option Ez):Option Ez:=
 if a.1<(c.2.length:Int)then(ck (0<=a.1∧a.1<(c.2.length:Int)) (ck (0<=a.1∧a.1<(c.1.length:Int)) (bH (tG U c a b) U ((0:Int),a.2.2))))else(wY U d c e f g (a.2.1,a.2.2))
def mB (U:Nat) (b:DG) (a:b_) (c:Int) (d:bX) (e:aO):Option Ez:=
 Option.bind (Bb U ((b.1,b.2.1,b.2.2)) ((a.1,a.2)) c d (e.length:Int)) λf=>(if f≠(0:Int)then(some (((([]:aO),([]:aO),([]:bX),(((0:Int),(0:Int),(0:Int),(0:Int),(0:Int))))),f))else(ck (0<=(a.2.length:Int)∧(a.2.length:Int)<=1099511627) (bH (nW U b a c d e) U ((0:Int),(0:Int),(List.replicate (Int.toNat (a.2.length:Int)) ([]:aO))))))
theorem Kb:aS Tryz.prog 6:=Tryz.call6
theorem qI (U:Nat) {n:DG} {C:b_} {R:Int} {p3:bX} {p4:aO} (p:Value)  (q:Value)  (v:Value)  (t:Value)  (z4:jO)  (v5:Value)  (z6:sY)  (v7:Value) (r:(aO×aO×bX×(Int×Int×Int×Int×Int))×Int) (h:mB U n C R p3 p4=some r):
  aY Tryz.prog 6 #[Value.agg #[vS (n.1),p,q],Value.agg #[v,t],vI (R),v5,v7] [Sl aX p n.2.1,Sl aM q n.2.2,PF (Value.agg #[vS n.1,p,q]),Sl bP v C.1,S2 aV t z4 C.2,S2 bP v5 z6 p3,Sl DO v7 p4,Gb 0 (cellsOf KJ AA)] (λx:Value×Value×Value×List Value=>Value.tuple #[Value.agg #[x.1,x.2.1,x.2.2.1,vI (r.1.2.2.2.1),vI (r.1.2.2.2.2.1),vI (r.1.2.2.2.2.2.1),vI (r.1.2.2.2.2.2.2.1),vU (r.1.2.2.2.2.2.2.2)],vI (r.2)]) (λx l=>Ar pX x.1 r.1.1::Ar pX x.2.1 r.1.2.1::Ar fQ.raw x.2.2.1 x.2.2.2::nH cB x.2.2.2 r.1.2.2.1::l) (λ_ l=>l):=by
 refine aY.of Tryz.func6 Z Tryz.ntmps6 Z λc=>?_;refine aP<|aG (aI.box (cs:=[vS (n.1),p,q]) Z Z) Z λb1=>aG (aI.box (cs:=[v,t]) Z Z) Z λb2=>aG (aI.alloc (cs:=GI) Z Z) Z λb3=>aC Z<|aJ<|aK<|aP<|cA 2 Z<|cA 1 Z<|aA Z<|aA Z<|aA Z<|gS (aE.fact 6 Z) Z<|dV h λr4 w5 h=>aG (zBb aeK (Ss U p q v t z4 v5 z6 r4 w5) Z (kA [0,1,2,3,4,5] Z)) Z λx6=>aC Z<|aJ<|aP<|aA Z<|pC Z<|aJ ?_;refine dK h Z (λh=>?_) λh=>?_
 ·refine aP ?_;refine aD (Fc (r:=Value.agg #[lE,lE,lE,vI (0:Int),vI (0:Int),vI (0:Int),vI (0:Int),vU (0:Int)]) (by intro w;simp[Instr.build,Instr.fill,dX,dA,cM,dY,dZ,dB,eQ])) Z ?_;refine aA Z<|bK 0 (vs:=GI) Z Z Z Z Z Z<|aC Z<|aJ<|aU<|aH<|jT (gK pX)<|jT (gK pX)<|jT (gK fQ.raw) (jT (CG cB) ?_);cases h;exact iG ((lE),(lE),(lE),([]:jB)) Z Z (RV.cell 4 Z Z Z Z) (RV.tmp Z) (a_.ix [2,3,1,0] Z Z) aB.nil
 refine cG<|aP<|cA 2 Z<|cA 1 Z<|aA Z<|qN (A:=Int×aO×g_×Int×bX) (B:=Nat×Value×Nat×Value×List Value×Value×List Value) (vs:=[Value.agg #[vS (n.1),p,q],Value.agg #[v,t],vI (R),Value.func (.func 23) #[] #[]]) (λd=>Dc U n C R p3 p4 d=some r) (λd a=>Value.agg #[vP a.1,a.2.1,vI (R),vU (d.1),Value.func (.func 23) #[] #[]]) (λd a=>[Ar pX a.2.1 d.2.1,bM a.1 [vS (n.1),p,q,vP a.2.2.1,a.2.2.2.1] 151,Ar fQ.raw a.2.2.2.1 a.2.2.2.2.1,nH bT a.2.2.2.2.1 d.2.2.1,bM a.2.2.1 [vS (n.1),p,q,v,t,vI (d.2.2.2.1),a.2.2.2.2.2.1] 196,Ar fQ.raw a.2.2.2.2.2.1 a.2.2.2.2.2.2,nH cB a.2.2.2.2.2.2 d.2.2.2.2,bM b3 GI 37]) (λd a=>[Sl aX p n.2.1,Sl aM q n.2.2,PF (Value.agg #[vS n.1,p,q]),Sl bP v C.1,S2 aV t z4 C.2,S2 bP v5 z6 p3,Sl DO v7 p4,Gb 0 (cellsOf KJ AA)]) (nT.fn (show aS Tryz.prog 22 from Tryz.call22) Z) Tryz.func22 Z Tryz.ntmps22 Z Z ?_ ?_
 ·refine aP<|aG (aI.box (cs:=[vS (n.1),p,q]) Z Z) Z λW=>aG (aI.box (cs:=[v,t]) Z Z) Z λX=>aG (aI.alloc (cs:=vD4) Z Z) Z λaa=>aJ<|aK ?_;refine JR.start [0,0,3,0,15,0,0,95,0,511,1023] 9 mixedOrders (by decide +kernel) ?_;refine zBe (by exact rfl) ?_;refine fX 2 Z<|fX 1 Z<|KO (A:=g_×Int×bX) (B:=Nat×Nat×Value×List Value×Value×List Value) (vs:=[Value.agg #[vS (n.1),p,q],Value.agg #[v,t]]) (λI=>AK U n C R p3 p4 I=some r) (λI m=>vP m.1) (λI m=>[bM m.1 [vS (n.1),p,q,vP m.2.1,m.2.2.1] 151,Ar fQ.raw m.2.2.1 m.2.2.2.1,nH bT m.2.2.2.1 I.1,bM m.2.1 [vS (n.1),p,q,v,t,vI (I.2.1),m.2.2.2.2.1] 196,Ar fQ.raw m.2.2.2.2.1 m.2.2.2.2.2,nH cB m.2.2.2.2.2 I.2.2,bM aa vD4 69,bM X [v,t] 29,bM W [vS (n.1),p,q] 44,bM b3 GI 37]) (λI m=>[Sl aX p n.2.1,Sl aM q n.2.2,PF (Value.agg #[vS n.1,p,q]),Sl bP v C.1,S2 aV t z4 C.2,S2 bP v5 z6 p3,Sl DO v7 p4,Gb 0 (cellsOf KJ AA)]) Z Z Z (nT.fn (show aS Tryz.prog 100 from Tryz.call100) Z) Tryz.func100 Z Tryz.ntmps100 Z Z (λ_ _=>(jD [] Z)) ?_ ?_
  ·refine aP<|aG (aI.box (cs:=[vS (n.1),p,q]) Z Z) Z λae=>aG (aI.box (cs:=[v,t]) Z Z) Z λaf=>aC Z<|aJ<|aK ?_;refine JR.start [0,0,0,6,0,0,62,127,255,511] 7 mixedOrders (by decide +kernel) ?_;refine zBe (by exact rfl) ?_;refine fX 1 Z<|fX 1 Z<|fX 0 Z<|KO (A:=Int×bX) (B:=Nat×Value×List Value) (vs:=[Value.agg #[vS (n.1),p,q],Value.agg #[v,t]]) (λM=>AL U n C R p3 p4 M=some r) (λM y=>vP y.1) (λM y=>[bM y.1 [vS (n.1),p,q,v,t,vI (M.1),y.2.1] 196,Ar fQ.raw y.2.1 y.2.2,nH cB y.2.2 M.2,bM af [v,t] 29,bM ae [vS (n.1),p,q] 44,bM aa vD4 69,bM X [v,t] 29,bM W [vS (n.1),p,q] 44,bM b3 GI 37]) (λM y=>[Sl aX p n.2.1,Sl aM q n.2.2,PF (Value.agg #[vS n.1,p,q]),Sl bP v C.1,S2 aV t z4 C.2,S2 bP v5 z6 p3,Sl DO v7 p4,Gb 0 (cellsOf KJ AA)]) Z Z Z (nT.fn (show aS Tryz.prog 183 from Tryz.call183) Z) Tryz.func183 Z Tryz.ntmps183 Z Z (λ_ _=>(jD [([4],[])] Z)) ?_ ?_
   ·refine aP<|aG (aI.box (cs:=[vS (n.1),p,q]) Z Z) Z λcl=>aG (aI.box (cs:=[v,t]) Z Z) Z λab=>aC Z<|aJ<|aK ?_;refine JR.start [0,0,0,4,12,28,63,127,255] 6 mixedOrders (by decide +kernel) ?_;refine zBe (by exact rfl) ?_;refine fX 1 Z<|fX 0 Z<|dJ Z<|fG 0 Z<|bG Z .nil (hZ 4 Z) (jW Z (aE.fact 0 Z) Z) aN.z<|dQ h λbw h=>JR.stp (AQ cB (Int.toNat (C.2.length:Int)))<|zBc Z Z Z (qO (e:=fQ.raw) (lE) Z Z Z Z bw Z Z Z) Z (λF=>(jD [([2],[]),([3],[])] Z)) λF=>bR 6 Z Z<|dH (Know.one (aE.sl (bE (i:=0) (j:=1) Z Z cD))) λbg=>?_;refine aD (Ye (r:=Value.agg #[vS (n.1),p,q,v,t,vI (0:Int),F]) Z Z Z (by intro w;simp[Instr.build,Instr.fill,dX,dA,cM,dY,dZ,dB,eQ,kX bg])) Z ?_;refine aG (aI.box (cs:=[vS (n.1),p,q,v,t,vI (0:Int),F]) Z Z) Z λN=>aC Z<|aJ<|aK<|El (B:=jB) (λO=>wY U n C R p3 p4 O=some r) (λO ag=>[(5,vP N)]) (λO ag=>[bM N [vS (n.1),p,q,v,t,vI (O.1),F] 196,Ar fQ.raw F ag,nH cB ag O.2,bM af [v,t] 29,bM ae [vS (n.1),p,q] 44,bM aa vD4 69,bM X [v,t] 29,bM W [vS (n.1),p,q] 44,bM b3 GI 37]) ?_ ?_
    ·refine aP<|bY Z<|cR 3 Z<|aD (jW Z (aE.fact 4 Z) Z) Z<|aA Z<|aJ<|aR<|eO (B:=jB) (nW U n C R p3 p4) (λf ac=>[(3,vP ab),(5,vP N),(19,t),(20,vI (C.2.length:Int)),(21,vI (f.1))]) (λf ac=>[bM N [vS (n.1),p,q,v,t,vI (f.2.1),F] 196,Ar fQ.raw F ac,nH cB ac f.2.2,bM ab [v,t] 29,bM af [v,t] 29,bM ae [vS (n.1),p,q] 44,bM aa vD4 69,bM X [v,t] 29,bM W [vS (n.1),p,q] 44,bM b3 GI 37]) ((0:Int),(0:Int),(List.replicate (Int.toNat (C.2.length:Int)) ([]:aO))) (List.replicate (Int.toNat (C.2.length:Int)) (lE)) h SF (a_.ix [0,1,2,3,5,6,7,8,9,10] Z Z) ?_;intro a0 f ac h;refine aP<|cO Z<|aJ<|aK ?_;refine dK h Z (λh=>?_) λh=>?_
     ·refine cG<|aK<|El (B:=jB) (λV=>AM C f (bH (nW U n C R p3 p4) a0) V=some r) (λV ah=>[(3,vP ab),(5,vP N),(19,t),(20,vI (C.2.length:Int)),(21,vI (f.1))]) (λV ah=>[bM N [vS (n.1),p,q,v,t,vI (max f.2.1 (at' C.1 f.1)),F] 196,Ar fQ.raw F ah,nH cB ah V,bM ab [v,t] 29,bM af [v,t] 29,bM ae [vS (n.1),p,q] 44,bM aa vD4 69,bM X [v,t] 29,bM W [vS (n.1),p,q] 44,bM b3 GI 37]) ?_ ?_
      ·refine aR<|aP<|aA Z<|dQ h λP h=>aD (cV Z Z (aE.fact 4 Z) Z Z P) Z<|aD (cP Z (aE.fact 4 Z) Z Z P) Z<|aC Z<|aC Z<|aJ<|aK ?_;refine JR.start [0,0,2,6,14,0,32,0,224,480,1022,2047,4095,8191] 11 mixedOrders (by decide +kernel) ?_;refine zBe (by exact rfl) ?_;refine bA Z<|bA Z<|gO Z (cF Z)<|dJ Z<|fG 0 Z<|dJ Z<|fG 3 Z<|bA Z<|dQ h λaL h=>bG Z .nil (hZ 3 Z) (aZ Z Z (aE.fact 0 Z) Z Z aL) aN.z<|bG Z .nil (hZ 3 Z) (bV Z (aE.fact 0 Z) Z Z Z cT aL) aN.z<|gO Z (Ka Z Z)<|bR 11 Z Z<|aD (cF Z) Z<|bY Z<|fK 0 Z Z Z Z Z Z<|aJ<|aP<|aA Z<|aD (fF Z (zBd (aE.fact 4 Z) P.1 P.2) Z) Z<|aA Z<|aJ<|aR<|eO (B:=jB) (tG U C f (bH (nW U n C R p3 p4) a0)) (λE ad=>[(3,vP ab),(5,vP N),(6,vI (f.1)),(19,t),(20,vI (C.2.length:Int)),(21,vI (f.1)),(39,(at' z4 f.1).1),(40,vI ((at' C.2 f.1).length:Int)),(41,vI (E.1))]) (λE ad=>[bM N [vS (n.1),p,q,v,t,vI (max f.2.1 (at' C.1 f.1)),F] 196,Ar fQ.raw F ad,nH cB ad E.2,bM ab [v,t] 29,bM af [v,t] 29,bM ae [vS (n.1),p,q] 44,bM aa vD4 69,bM X [v,t] 29,bM W [vS (n.1),p,q] 44,bM b3 GI 37]) ((0:Int),f.2.2) (ac) h SF (a_.refl _) ?_;intro cn E ad h;refine aP<|cO Z<|aJ<|aK ?_;refine dK h Z (λh=>?_) λh=>?_
       ·refine cG<|aK<|aR<|aP<|dQ h λaW h=>aD (aZ Z Z (zBd (aE.fact 4 Z) P.1 P.2) Z Z aW) Z<|aD (eM (cs:=[vI ((at' (at' C.2 f.1) E.1).1),vI ((at' (at' C.2 f.1) E.1).2)]) Z (zBd (aE.fact 4 Z) P.1 P.2) bD Z Z Z Z aW) Z<|aG (aI.alloc (cs:=Ni) Z Z) Z λcm=>bK 0 (vs:=[vI ((at' (at' C.2 f.1) E.1).1),vI ((at' (at' C.2 f.1) E.1).2)]) Z Z Z Z Z Z<|aJ ?_;refine JR.start [0,1,3,7,0,0,32,96,224,0,992,2016,0,0,8192,0,61440,126976,262112,524287,1048575] 19 mixedOrders (by decide +kernel) ?_;refine zBe (by exact rfl) ?_;refine bA Z<|gO Z (cF Z)<|dJ Z<|fG 1 Z<|bA Z<|bA Z<|gO Z (cF Z)<|dJ Z<|fG 1 Z<|bA Z<|dQ h λao h=>cL (eH 3 Z) λa6=>?_;refine bG Z (a_.cons 2 Z .nil) .nil (kP 0 Z Z Z Z Z ao.1 (by have q1:=ao.2;have q2:=a6;(try simp only[zA3]at q1);(try simp only[zA3]at q2);(try simp only[zA3]);omega)) aN.z ?_;refine cL (eH 3 Z) λa7=>bG Z (a_.cons 2 Z .nil) .nil (pN 0 Z Z a7 Z Z ao) aN.z<|fX 4 Z<|dJ Z<|fG 0 Z<|bA Z<|dV h λai b7 h=>zBc Z Z Z (zBb abV (MP U v t z4 ai b7) Z (kA [3,4] Z)) Z (λcb=>(jD [([2],[]),([2],[]),([1],[]),([1],[])] Z)) λcb=>zBc Z Z Z (cQ (e:=cB) ([ai]) [(0,vI (ai))] Z Z Z Z (rK (vI (ai)) Z) Z Z Z) Z (λbJ=>(jD [([3],[]),([3],[]),([2],[]),([2],[])] Z)) λbJ=>dQ h λbx h=>zBc Z Z Z (sN 4 cD Z Z Z (aT (aE.res 0 Z) cD) Z Z Z Z ao bx Z) Z (λa4=>(jD [([2],[])] Z)) λa4=>bR 19 Z Z<|dQ h λQ h=>dH (eH 4 Z) λa8=>?_;refine aD (kP 3 Z Z Z Z Z Q.1 (by have q1:=Q.2;have q2:=a8;(try simp only[zA3]at q1);(try simp only[zA3]at q2);(try simp only[zA3]);omega)) Z ?_;refine dH (CF 4 (k:=f.1) Z ⟨Q.1,by first|exact Q.2|simpa using Q.2⟩) λbh=>?_;refine sE 3 4 ⟨Q.1,by first|exact Q.2|simpa using Q.2⟩ Z Z Z Z Z (by simp) bh Z ?_;refine eV<|lU<|aQ<|cH Z<|aA Z<|aJ ?_;exact kO ((wI .i64 (E.1+(1:Int))),(List.set E.2 (Int.toNat f.1) ((at' E.2 f.1)++[ai]))) (List.set ad (Int.toNat f.1) a4) h SF (a_.ix [2,3,4,5,6,7,8,9,10,11] Z Z) (aB.refl _ _)
       refine sD<|fD<|fD<|yY<|lU ?_;exact iH (E.2) (ad) h SF Z
      intro V ah h;unfold AM at h;refine aQ<|cH Z<|aA Z<|aJ ?_;exact AS ((wI .i64 (f.1+(1:Int))),(max f.2.1 (at' C.1 f.1)),V) (ah) h SF Z
     refine fL ?_;exact bW (f.2.1,f.2.2) (ac) h SF (a_.ix [0,1,2,4,5,6,7,8,9] Z Z) (aB.refl _ _)
    intro O ag h;unfold wY at h;refine aP<|aA Z<|aC Z<|aJ<|aU ?_;exact jV (O.1,O.2) (N,F,ag) h (.inl Z) (Cu.r1 Z (RV.tmp Z)) Z (a_.refl _) (aB.refl _ _)
   intro M y h;unfold AL at h;refine bG Z (a_.cons 4 Z .nil) .nil (jX 0 Z Z Z Z) (aN.h (a_.ix [1] Z Z) .nil aN.z)<|bG Z (a_.cons 3 Z .nil) .nil (jX 0 Z Z Z Z) (aN.h (a_.ix [0] Z Z) .nil aN.z)<|dV h λa3 b6 h=>zBc Z Z Z (zBb UP (FH U p q v t z4 a3 b6) Z (kA [0,1,2,3,4] Z)) Z (λaj=>(jD [([6],[])] Z)) λaj=>bR 7 Z Z<|dH (Know.one (aE.sl (bE (i:=0) (j:=1) Z Z bD))) λbf=>?_;refine aD (Ye (r:=Value.agg #[vS (n.1),p,q,Value.pointer (some ⟨y.1,0,none⟩),aj.1]) Z Z Z (by intro w;simp[Instr.build,Instr.fill,dX,dA,cM,dY,dZ,dB,eQ,kX bf])) Z ?_;refine aG (aI.box (cs:=[vS (n.1),p,q,vP y.1,aj.1]) Z Z) Z λbi=>aC Z<|aJ<|aU ?_;exact jV (a3,M.1,M.2) (bi,y.1,aj.1,aj.2,y.2.1,y.2.2) h (.inl Z) (Cu.r1 Z (RV.tmp Z)) Z (a_.ix [0,1,2,3,4,5,8,9,10,11] Z Z) (aB.refl _ _)
  intro I m h;unfold AK at h;refine bG Z (a_.cons 7 Z .nil) .nil (jX 0 Z Z Z Z) (aN.h (a_.ix [1] Z Z) .nil aN.z)<|dV h λa2 b4 h=>zBc Z Z Z (zBb abv (KB U v t z4 a2 b4) Z (kA [3,4] Z)) Z (λar=>(jD [] Z)) λar=>gO Z (gN Z)<|bG Z (a_.cons 8 Z .nil) .nil (jX 0 Z Z Z Z) (aN.h (a_.ix [7] Z Z) .nil (aN.h (a_.ix [1] Z Z) .nil aN.z))<|dV h λaq b5 h=>zBc Z Z Z (zBb abw (Sr U v t z4 aq b5) Z (kA [3,4] Z)) Z (λca=>(jD [] Z)) λca=>gO Z (gN Z)<|bR 9 Z Z<|dH (Know.one ((aT (aE.res 0 Z) mU))) λbd=>?_;refine aD (Y.bld5 (r:=Value.agg #[Value.pointer (some ⟨m.1,0,none⟩),ar,vI (R),vU (aq),Value.func (.func 23) #[] #[]]) Z Z Z Z Z (by intro w;simp[Instr.build,Instr.fill,dX,dA,cM,dY,dZ,dB,eQ,kX bd])) Z ?_;refine dH (Know.one ((aT (aE.res 0 Z) mU))) λbe=>bK 7 (vs:=[vP m.1,ar,vI (R),vU (aq),Value.func (.func 23) #[] #[]]) Z Z (eB Z (eB be (eB Z (eB Z (eB Z Z))))) Z Z Z<|aJ<|aU ?_;exact jV (aq,a2,I.1,I.2.1,I.2.2) (m.1,ar,m.2.1,m.2.2.1,m.2.2.2.1,m.2.2.2.2.1,m.2.2.2.2.2) h (.inl Z) (Cu.r1 Z (RV.cell 7 Z Z Z Z)) Z (a_.ix [0,1,2,3,4,5,6,10] Z Z) (aB.refl _ _)
 intro d a h;refine aA Z<|aA Z<|qN (A:=VR) (B:=Value×Value×Value×List Value) (vs:=[Value.agg #[vP a.1,a.2.1,vI (R),vU (d.1),Value.func (.func 23) #[] #[]],v5,v7]) (λD=>Dd  D=some r) (λD G=>Value.tuple #[Value.agg #[G.1,G.2.1,G.2.2.1,vI (D.1),vI (D.2.1),vI (D.2.2.1),vI (D.2.2.2.1),vU (D.2.2.2.2.1)],vI (D.2.2.2.2.2.1)]) (λD G=>[bM b3 GI 37,Ar pX G.1 D.2.2.2.2.2.2.1,Ar pX G.2.1 D.2.2.2.2.2.2.2.1,Ar fQ.raw G.2.2.1 G.2.2.2,nH cB G.2.2.2 D.2.2.2.2.2.2.2.2]) (λD G=>[Sl aX p n.2.1,Sl aM q n.2.2,PF (Value.agg #[vS n.1,p,q]),Sl bP v C.1,S2 aV t z4 C.2,S2 bP v5 z6 p3,Sl DO v7 p4,Gb 0 (cellsOf KJ AA)]) (nT.fn (show aS Tryz.prog 24 from Tryz.call24) Z) Tryz.func24 Z Tryz.ntmps24 Z Z ?_ ?_
 ·refine aP<|aG (aI.box (cs:=[vP a.1,a.2.1,vI (R),vU (d.1),Value.func (.func 23) #[] #[]]) Z Z) Z λak=>dH (Know.one ((aE.fact 6 Z))) λbm=>?_;refine aG (aI.box (cs:=[v7]) Z (by rw[kX bm])) Z λal=>?_;refine aG (aI.alloc (cs:=GI) Z Z) Z λay=>aC Z<|aJ<|aP<|cA 2 Z<|aA Z<|cR 1 Z<|gS (aE.fact 6 Z) Z<|aD (gX (cs:=[.tmp 3,.tmp 5]) (vs:=[vP ak,vP al]) Z) Z<|qN (A:=aO×aO×bX×Int×Int×Int×Int×Int×Int) (B:=Value×Value×Value×List Value) (vs:=[Value.agg #[vP a.1,a.2.1,vI (R),vU (d.1),Value.func (.func 23) #[] #[]],v5,vI (p4.length:Int),Value.func (.func 104) #[] #[vP ak,vP al]]) (λs=>AJ  s=some r) (λs H=>Value.tuple #[Value.agg #[H.1,H.2.1,H.2.2.1,vI (s.2.2.2.1),vI (s.2.2.2.2.1),vI (s.2.2.2.2.2.1),vI (s.2.2.2.2.2.2.1),vU (s.2.2.2.2.2.2.2.1)],vI (s.2.2.2.2.2.2.2.2)]) (λs H=>[bM ay GI 37,bM b3 GI 37,Ar pX H.1 s.1,Ar pX H.2.1 s.2.1,Ar fQ.raw H.2.2.1 H.2.2.2,nH cB H.2.2.2 s.2.2.1]) (λs H=>[Sl aX p n.2.1,Sl aM q n.2.2,PF (Value.agg #[vS n.1,p,q]),Sl bP v C.1,S2 aV t z4 C.2,S2 bP v5 z6 p3,Sl DO v7 p4,Gb 0 (cellsOf KJ AA)]) (nT.fn (show aS Tryz.prog 103 from Tryz.call103) Z) Tryz.func103 Z Tryz.ntmps103 Z Z ?_ ?_
  ·refine aP<|aG (aI.box (cs:=[vP a.1,a.2.1,vI (R),vU (d.1),Value.func (.func 23) #[] #[]]) Z Z) Z λa5=>aG (aI.alloc (cs:=GI) Z Z) Z λav=>aC Z<|aJ<|aP<|aG (aI.alloc (cs:=GI) Z Z) Z λaw=>aJ<|aP<|aA Z<|dV h λaz cf h=>aG (zBb UQ (Ha U v5 z6 az cf) Z (kA [5] Z)) Z λan=>aC Z<|aJ<|aK ?_;refine JR.start [0,1,0,7,0,16,63,127] 6 mixedOrders (by decide +kernel) ?_;refine zBe (by exact rfl) ?_;refine dJ Z<|fG 4 Z<|bA Z<|dV h λam cg h=>zBc Z Z Z (zBb UR (yT U a.1 p q a.2.2.1 p q v t z4 a.2.2.2.2.2.1 (List.zip a.2.2.2.2.2.2 d.2.2.2.2) a.2.2.2.1 (List.zip a.2.2.2.2.1 d.2.2.1) an.1 (List.zip an.2 az) am cg) Z (aB.cons (aE.res 9 Z) (aB.cons (aE.fact 0 Z) (aB.cons (aE.fact 1 Z) (aB.cons (aE.res 12 Z) (aB.cons (aE.fact 0 Z) (aB.cons (aE.fact 1 Z) (aB.cons (aE.fact 3 Z) (aB.cons (aE.fact 4 Z) (aB.cons (bE (i:=13) (j:=14) Z Z cD) (aB.cons (bE (i:=10) (j:=11) Z Z bD) (aB.cons (bE (i:=0) (j:=1) Z Z cD) .nil)))))))))))) Z (λcj=>(jD [] Z)) λcj=>gO Z (eI Z Z Z Z Z)<|bG Z (a_.cons 4 Z .nil) .nil (d_ 0 Z Z Z Z Z) (aN.h (a_.ix [4] Z Z) .nil aN.z)<|bR 6 Z Z<|Bt Z<|aC Z<|aJ<|aP<|aA Z<|dV h λK ch h=>aG (zBb abO (Kz U  K ch) Z .nil) Z λcv=>aG (aI.alloc (cs:=vD3) Z Z) Z λax=>bK 0 (vs:=[vI (K.1),vI (K.2.1),vI (K.2.2.1),vI (K.2.2.2.1),vU (K.2.2.2.2)]) Z Z Z Z Z Z<|aJ<|aP<|bY Z<|cR 5 Z<|aA Z<|aA Z<|cA 0 Z<|dV h λcd ci h=>aG (i_ (vs:=[an.1,vU (eW .u32 am d.1),Value.agg #[vI (K.1),vI (K.2.1),vI (K.2.2.1),vI (K.2.2.2.1),vU (K.2.2.2.2)]]) (cs:=[]) Yt Z (IP U an.1 (List.zip an.2 az) cd ci) Z (aB.cons (bE (i:=1) (j:=2) Z Z cD) .nil) (λ_ _=>rfl)) Z λcw=>aJ<|aP<|bY Z<|cR 3 Z<|aA Z<|aG (cQ (e:=pX) ([(eW .u32 am d.1)]) [(0,vU (eW .u32 am d.1))] Z Z Z Z (rK (vU (eW .u32 am d.1)) Z) Z Z Z) Z λcu=>jT (gK pX)<|dQ h λcc h=>aG (iV 0 mU Z Z Z (aT (aE.res 1 Z) mU) Z Z Z Z cc Z) Z λce=>bY Z<|dH (Know.one ((aT (aE.res 0 Z) mU))) λbq=>fK 5 Z Z bq Z Z Z<|aJ<|aK<|El (B:=Value×List Value×Value×Value) (λo=>wX  o=some r) (λo J=>[(1,J.1),(8,vP av),(10,vP aw),(12,vP ax)]) (λo J=>[Ar pX J.2.2.2 o.1,bM ax [vI (o.2.1),vI (o.2.2.1),vI (o.2.2.2.1),vI (o.2.2.2.2.1),vU (o.2.2.2.2.2.1)] 35,Ar fQ.raw J.1 J.2.1,nH cB J.2.1 o.2.2.2.2.2.2.1,bM aw [J.2.2.1,J.2.2.2,lE,vI (0:Int),vI (0:Int),vI (0:Int),vI (0:Int),vU (0:Int)] 37,bM av GI 37,bM ay GI 37,bM b3 GI 37,Ar pX J.2.2.1 o.2.2.2.2.2.2.2]) ?_ ?_
   ·refine aP<|aA Z<|aA Z<|aJ<|aR<|jT (gK pX)<|eO (B:=Value×List Value×Value×Value) (wZ U n C R p4 d) (λb g=>[(1,g.1),(3,Value.func (.func 104) #[] #[vP ak,vP al]),(4,vP a5),(8,vP av),(10,vP aw),(11,vU (b.1)),(12,vP ax),(39,vI (p4.length:Int)),(40,vI (b.2.2.1))]) (λb g=>[Ar pX g.2.2.2 b.2.1,bM ax [vI (b.2.2.2.1),vI (b.2.2.2.2.1),vI (b.2.2.2.2.2.1),vI (b.2.2.2.2.2.2.1),vU (b.2.2.2.2.2.2.2.1)] 35,Ar fQ.raw g.1 g.2.1,nH cB g.2.1 b.2.2.2.2.2.2.2.2.1,bM aw [g.2.2.1,g.2.2.2,lE,vI (0:Int),vI (0:Int),vI (0:Int),vI (0:Int),vU (0:Int)] 37,bM av GI 37,bM a5 [vP a.1,a.2.1,vI (R),vU (d.1),Value.func (.func 23) #[] #[]] 69,bM ay GI 37,bM al [v7] 31,bM ak [vP a.1,a.2.1,vI (R),vU (d.1),Value.func (.func 23) #[] #[]] 69,Ar pX a.2.1 d.2.1,bM a.1 [vS (n.1),p,q,vP a.2.2.1,a.2.2.2.1] 151,Ar fQ.raw a.2.2.2.1 a.2.2.2.2.1,nH bT a.2.2.2.2.1 d.2.2.1,bM a.2.2.1 [vS (n.1),p,q,v,t,vI (d.2.2.2.1),a.2.2.2.2.2.1] 196,Ar fQ.raw a.2.2.2.2.2.1 a.2.2.2.2.2.2,nH cB a.2.2.2.2.2.2 d.2.2.2.2,bM b3 GI 37,Ar pX g.2.2.1 b.2.2.2.2.2.2.2.2.2]) ((eW .u32 am d.1),(([]:aO)++([(eW .u32 am d.1)])),(0:Int),K.1,K.2.1,K.2.2.1,K.2.2.2.1,K.2.2.2.2,az,([]:aO)) (an.1,an.2,(lE),ce) h SF (a_.ix [1,3,4,5,6,7,8,9,10,11,12,13,14,15,16,17,18,19,0] Z Z) ?_;intro bz b g h;refine aP<|cO Z<|aJ<|aK ?_;refine dK h Z (λh=>?_) λh=>?_
    ·refine cG<|aK<|aR<|aP<|aA Z<|aC Z<|aJ<|aP<|aA Z<|aA Z<|aA Z<|qN (A:=Int) (B:=Unit) (vs:=[vI (b.2.2.1),vU (b.1),vP ak,vP al]) (λL=>De U n C R d b (bH (wZ U n C R p4 d) bz) L=some r) (λL au=>Value.tuple #[vU (L),vB (decide (b.1≠(0:Int)))]) (λL au=>[Ar pX g.2.2.2 b.2.1,bM ax [vI (b.2.2.2.1),vI (b.2.2.2.2.1),vI (b.2.2.2.2.2.1),vI (b.2.2.2.2.2.2.1),vU (b.2.2.2.2.2.2.2.1)] 35,Ar fQ.raw g.1 g.2.1,nH cB g.2.1 b.2.2.2.2.2.2.2.2.1,bM aw [g.2.2.1,g.2.2.2,lE,vI (0:Int),vI (0:Int),vI (0:Int),vI (0:Int),vU (0:Int)] 37,bM av GI 37,bM a5 [vP a.1,a.2.1,vI (R),vU (d.1),Value.func (.func 23) #[] #[]] 69,bM ay GI 37,bM al [v7] 31,bM ak [vP a.1,a.2.1,vI (R),vU (d.1),Value.func (.func 23) #[] #[]] 69,Ar pX a.2.1 d.2.1,bM a.1 [vS (n.1),p,q,vP a.2.2.1,a.2.2.2.1] 151,Ar fQ.raw a.2.2.2.1 a.2.2.2.2.1,nH bT a.2.2.2.2.1 d.2.2.1,bM a.2.2.1 [vS (n.1),p,q,v,t,vI (d.2.2.2.1),a.2.2.2.2.2.1] 196,Ar fQ.raw a.2.2.2.2.2.1 a.2.2.2.2.2.2,nH cB a.2.2.2.2.2.2 d.2.2.2.2,bM b3 GI 37,Ar pX g.2.2.1 b.2.2.2.2.2.2.2.2.2]) (λL au=>[Sl aX p n.2.1,Sl aM q n.2.2,PF (Value.agg #[vS n.1,p,q]),Sl bP v C.1,S2 aV t z4 C.2,S2 bP v5 z6 p3,Sl DO v7 p4,Gb 0 (cellsOf KJ AA)]) (uX (us:=[vI (b.2.2.1),vU (b.1)]) (cs:=[vP ak,vP al]) (show aS Tryz.prog 104 from Tryz.call104) Z Z Z) Tryz.func104 Z Tryz.ntmps104 Z Z ?_ ?_
     ·refine aP<|aC Z<|aC Z<|aJ<|aK ?_;refine JR.start [0,1,0,4,0,0,0,96,224,511,0,1024,1023,8191] 13 mixedOrders (by decide +kernel) ?_;refine zBe (by exact rfl) ?_;refine dJ Z<|fG 9 Z<|dJ Z<|fG 9 Z<|bA Z<|fG 8 Z<|bA Z<|dQ h λaF h=>bG Z .nil (hZ 6 Z) (aZ Z Z (aE.fact 0 Z) Z Z aF) aN.z<|bG Z .nil (hZ 6 Z) (bV Z (aE.fact 0 Z) Z Z Z Je aF) aN.z<|dV h λa1 b0 h=>zBc Z Z Z (zBb UH (Af U a.2.1 a1 b0) Z (aB.cons (aT (aE.res 10 Z) mU) (kA [7] Z))) Z (λb9=>(jD [] Z)) λb9=>gO Z (gN Z)<|gO Z (Bq Z Z)<|gO Z (wO Z)<|bR 13 Z Z<|aC Z<|aJ<|aU ?_;exact jV (a1) () h (.inl Z) (Cu.r2 Z (RV.tmp Z) (RV.tmp Z)) Z (a_.refl _) (aB.refl _ _)
     intro L au h;refine aA Z<|iU Z<|iU Z<|aC Z<|aC Z<|aJ<|aK<|aP<|aA Z<|aD (aeA Z) Z<|aJ ?_;refine dK h Z (λh=>?_) λh=>?_
     ·refine sD<|fD<|aaZ Z<|fD<|fD<|yY<|CE ?_;exact bW (b.2.1,b.2.2.2.1,b.2.2.2.2.1,b.2.2.2.2.2.1,b.2.2.2.2.2.2.1,b.2.2.2.2.2.2.2.1,b.2.2.2.2.2.2.2.2.1,b.2.2.2.2.2.2.2.2.2) (g.1,g.2.1,g.2.2.1,g.2.2.2) h SF (a_.ix [0,1,2,3,4,5,7,17,18] Z Z) (aB.refl _ _)
     refine cG<|aK<|aP<|bY Z<|cR 6 Z<|bY Z<|cR 6 Z<|aA Z<|aA Z<|dV h λbB bL h=>aG (zBb US (Ae U a.2.1 bB bL) Z (aB.cons (aT (aE.res 10 Z) mU) (kA [7] Z))) Z λcq=>aD (kB Z) Z<|aJ ?_;refine yW h Z (λ_ h=>?_) λ_ h=>?_
     ·refine aP ?_;refine aD (Fc (r:=Value.agg #[lE,lE,lE,vI (0:Int),vI (0:Int),vI (0:Int),vI (0:Int),vU (0:Int)]) (by intro w;simp[Instr.build,Instr.fill,dX,dA,cM,dY,dZ,dB,eQ])) Z ?_;refine bK 5 (vs:=GI) Z Z Z Z Z Z<|aC Z<|aJ<|aU<|aH<|bN<|aH<|aH<|bN<|aH<|jT (gK pX)<|jT (gK pX)<|jT (gK fQ.raw) (jT (CG cB) ?_);exact jV (([]:aO),([]:aO),([]:bX),(0:Int),(0:Int),(0:Int),(0:Int),(0:Int),(11:Int)) ((lE),(lE),(lE),([]:jB)) h (.inl Z) (Cu.r2 Z (RV.cell 9 Z Z Z Z) (RV.tmp Z)) Z (a_.ix [11,21,2,3,1,0] Z Z) (aB.refl _ _)
     refine cG<|aP<|bY Z<|cR 6 Z<|aA Z<|aA Z<|dV h λap bO h=>aG (zBb abP (FG U a.1 p q a.2.2.1 p q v t z4 a.2.2.2.2.2.1 (List.zip a.2.2.2.2.2.2 d.2.2.2.2) a.2.2.2.1 (List.zip a.2.2.2.2.1 d.2.2.1) g.1 (List.zip g.2.1 b.2.2.2.2.2.2.2.2.1) ap bO) Z (aB.cons (aE.res 11 Z) (aB.cons (aE.fact 0 Z) (aB.cons (aE.fact 1 Z) (aB.cons (aE.res 14 Z) (aB.cons (aE.fact 0 Z) (aB.cons (aE.fact 1 Z) (aB.cons (aE.fact 3 Z) (aB.cons (aE.fact 4 Z) (aB.cons (bE (i:=15) (j:=16) Z Z cD) (aB.cons (bE (i:=12) (j:=13) Z Z bD) (aB.cons (bE (i:=2) (j:=3) Z Z cD) .nil)))))))))))) Z λT=>aC Z<|aJ<|aK ?_;refine JR.start [0,1,0,7,0,16,63,127] 6 mixedOrders (by decide +kernel) ?_;refine zBe (by exact rfl) ?_;refine dJ Z<|fG 8 Z<|bA Z<|dV h λS bQ h=>zBc Z Z Z (zBb UR (yT U a.1 p q a.2.2.1 p q v t z4 a.2.2.2.2.2.1 (List.zip a.2.2.2.2.2.2 d.2.2.2.2) a.2.2.2.1 (List.zip a.2.2.2.2.1 d.2.2.1) T.1 (List.zip T.2 ap) S bQ) Z (aB.cons (aE.res 13 Z) (aB.cons (aE.fact 0 Z) (aB.cons (aE.fact 1 Z) (aB.cons (aE.res 16 Z) (aB.cons (aE.fact 0 Z) (aB.cons (aE.fact 1 Z) (aB.cons (aE.fact 3 Z) (aB.cons (aE.fact 4 Z) (aB.cons (bE (i:=17) (j:=18) Z Z cD) (aB.cons (bE (i:=14) (j:=15) Z Z bD) (aB.cons (bE (i:=0) (j:=1) Z Z cD) .nil)))))))))))) Z (λb8=>(jD [] Z)) λb8=>gO Z (eI Z Z Z Z Z)<|bG Z (a_.cons 8 Z .nil) .nil (d_ 0 Z Z Z Z Z) (aN.h (a_.ix [8] Z Z) .nil aN.z)<|bR 6 Z Z<|Bt Z<|aC Z<|aJ<|aP<|cA 3 Z<|aA Z<|aA Z<|dV h λu bS h=>aG (zBb abQ (Np U  u bS) Z .nil) Z λcr=>aA Z<|iU Z<|iU Z<|bK 3 (vs:=[vI (u.1.1),vI (u.1.2.1),vI (u.1.2.2.1),vI (u.1.2.2.2.1),vU (u.1.2.2.2.2)]) Z Z Z Z Z Z<|aJ<|aP<|bY Z<|cR 8 Z<|aA Z<|aA Z<|cA 3 Z<|dV h λbC bU h=>aG (i_ (vs:=[T.1,vU (eW .u32 S d.1),Value.agg #[vI (u.1.1),vI (u.1.2.1),vI (u.1.2.2.1),vI (u.1.2.2.2.1),vU (u.1.2.2.2.2)]]) (cs:=[]) Yt Z (IP U T.1 (List.zip T.2 ap) bC bU) Z (aB.cons (bE (i:=0) (j:=1) Z Z cD) .nil) (λ_ _=>rfl)) Z λct=>aJ<|aP<|bY Z<|cR 6 Z<|aA Z<|aG (cQ (e:=pX) ([L]) [(0,vU (L))] Z Z Z Z (rK (vU (L)) Z) Z Z Z) Z λco=>dQ h λbt h=>aG (iV 21 mU Z Z Z (aT (aE.res 0 Z) mU) Z Z Z Z bt Z) Z λbF=>bY Z<|dH (Know.one ((aT (aE.res 21 Z) mU))) λbb=>fK 7 Z Z bb Z Z Z<|aJ<|aQ<|bY Z<|cR 7 Z<|aA Z<|aG (cQ (e:=pX) ([(eW .u32 S d.1)]) [(0,vU (eW .u32 S d.1))] Z Z Z Z (rK (vU (eW .u32 S d.1)) Z) Z Z Z) Z λcp=>dQ h λbu h=>aG (iV 4 mU Z Z Z (aT (aE.res 0 Z) mU) Z Z Z Z bu Z) Z λbI=>bY Z<|dH (Know.one ((aT (aE.res 4 Z) mU))) λbc=>fK 8 Z Z bc Z Z Z<|eV<|lU<|aQ<|cH Z<|aA Z<|aJ ?_;exact kO ((eW .u32 S d.1),(b.2.1++([(eW .u32 S d.1)])),(wI .i64 (b.2.2.1+(1:Int))),u.1.1,u.1.2.1,u.1.2.2.1,u.1.2.2.2.1,u.1.2.2.2.2,ap,(b.2.2.2.2.2.2.2.2.2++[L])) (T.1,T.2,bF,bI) h SF (a_.ix [4,5,2,3,8,9,10,11,12,13,14,15,16,17,18,19,20,21,22] Z Z) (aB.refl _ _)
    refine fL ?_;exact bW (b.2.1,b.2.2.2.1,b.2.2.2.2.1,b.2.2.2.2.2.1,b.2.2.2.2.2.2.1,b.2.2.2.2.2.2.2.1,b.2.2.2.2.2.2.2.2.1,b.2.2.2.2.2.2.2.2.2) (g.1,g.2.1,g.2.2.1,g.2.2.2) h SF (a_.ix [0,1,2,3,4,5,7,17,18] Z Z) (aB.refl _ _)
   intro o J h;unfold wX at h;refine aK ?_;refine JR.start [0,0,1,5,15,31] 4 mixedOrders (by decide +kernel) ?_;refine zBe (by exact rfl) ?_;refine bA Z<|fX 1 Z<|dJ Z<|cL (Know.one (aE.sl (bE (i:=2) (j:=3) Z Z cD))) λbr=>oG Z Z Z (EY 4 Z Z br Z Z Z) (λck=>(jD [([1],[])] Z)) λck=>bR 4 Z Z<|bY Z<|KN (Lv 4 (us:=[vI (o.2.1),vI (o.2.2.1),vI (o.2.2.2.1),vI (o.2.2.2.2.1),vU (o.2.2.2.2.2.1)]) Z Z Z Z Z Z Z Z Z) λcx=>aJ<|aP<|cA 4 Z<|dH (Know.one ((aT (aE.res 8 Z) mU))) λbs=>dH (Know.one ((aT (aE.res 0 Z) mU))) λa9=>dH (Know.one (aE.sl (bE (i:=2) (j:=3) Z Z cD))) λba=>bK 5 (vs:=[J.2.2.1,J.2.2.2,J.1,vI (o.2.1),vI (o.2.2.1),vI (o.2.2.2.1),vI (o.2.2.2.2.1),vU (o.2.2.2.2.2.1)]) Z Z (eB bs (eB a9 (eB ba (eB Z (eB Z (eB Z (eB Z (eB Z Z)))))))) Z Z Z<|aC Z<|aJ<|aU ?_;exact jV (o.2.2.2.2.2.2.2,o.1,o.2.2.2.2.2.2.1,o.2.1,o.2.2.1,o.2.2.2.1,o.2.2.2.2.1,o.2.2.2.2.2.1,(0:Int)) (J.2.2.1,J.2.2.2,J.1,J.2.1) h (.inl Z) (Cu.r2 Z (RV.cell 5 Z Z Z Z) (RV.tmp Z)) Z (a_.ix [6,7,8,0,2,3] Z Z) (aB.refl _ _)
  intro s H h;unfold AJ at h;refine iU Z<|iU Z<|dH (Know.one ((aT (aE.res 2 Z) mU))) λbn=>dH (Know.one ((aT (aE.res 3 Z) mU))) λbo=>dH (Know.one (aE.sl (bE (i:=4) (j:=5) Z Z cD))) λbp=>bK 0 (vs:=[H.1,H.2.1,H.2.2.1,vI (s.2.2.2.1),vI (s.2.2.2.2.1),vI (s.2.2.2.2.2.1),vI (s.2.2.2.2.2.2.1),vU (s.2.2.2.2.2.2.2.1)]) Z Z (eB bn (eB bo (eB bp (eB Z (eB Z (eB Z (eB Z (eB Z Z)))))))) Z Z Z<|aC Z<|aJ<|aU ?_;exact jV (s.2.2.2.1,s.2.2.2.2.1,s.2.2.2.2.2.1,s.2.2.2.2.2.2.1,s.2.2.2.2.2.2.2.1,s.2.2.2.2.2.2.2.2,s.1,s.2.1,s.2.2.1) (H.1,H.2.1,H.2.2.1,H.2.2.2) h (.inl Z) (Cu.r2 Z (RV.cell 0 Z Z Z Z) (RV.tmp Z)) Z (a_.ix [1,2,3,4,5] Z Z) (aB.refl _ _)
 intro D G h;unfold Dd at h;refine iU Z<|iU Z<|dH (Know.one ((aT (aE.res 1 Z) mU))) λbj=>dH (Know.one ((aT (aE.res 2 Z) mU))) λbk=>dH (Know.one (aE.sl (bE (i:=3) (j:=4) Z Z cD))) λbl=>bK 0 (vs:=[G.1,G.2.1,G.2.2.1,vI (D.1),vI (D.2.1),vI (D.2.2.1),vI (D.2.2.2.1),vU (D.2.2.2.2.1)]) Z Z (eB bj (eB bk (eB bl (eB Z (eB Z (eB Z (eB Z (eB Z Z)))))))) Z Z Z<|aC Z<|aJ<|aU ?_;cases h;exact iG (G.1,G.2.1,G.2.2.1,G.2.2.2) Z Z (RV.cell 0 Z Z Z Z) (RV.tmp Z) (a_.ix [1,2,3,4] Z Z) aB.nil
end Go.Proofs.YtcnnfkapmjhnaaaGreatDoor
namespace Go.Proofs.YtcnnfkapmjhnaaaGreatDoor
open Go Go.Sx
theorem Xk {g:GR} (e:VG g) (p:Ap) (b:Int) (c:bX) (o:aO):
  bH (nW 1000 p g b c o) 1000 ((0:Int),(0:Int),(List.replicate (Int.toNat (g.2.length:Int)) ([]:aO)))=wY 1000 p g b c o (lY g g.2.length,gR g):=by
 have z:=e.n24;have s:=e.len;let f:Nat->aO:=λv=>(List.range (row g v).length).map (UG g v);let Q:Nat->bX:=λk=>(List.range k).map f++List.replicate (g.2.length - k) [];have q:∀k,k<=g.2.length->(Q k).length=g.2.length:=λk i=>by simp[Q];omega
 rw[show List.replicate (Int.toNat (g.2.length:Int)) ([]:aO)=Q 0 by simp[Q]];refine fM (step:=nW 1000 p g b c o) g.2.length (λk=>((k:Int),lY g k,Q k)) (λk d i=> ?_) (λd=> ?_) 1000 (by omega)
 ·have r:=(e.node k i).deg;have t:k<(Q k).length:=by rw[q k (by omega)];exact i
  unfold nW;dsimp only;rw[if_pos (by omega),cK (by omega),cK (by omega)];let a:Nat->aO:=λj=>(List.range j).map (UG g k);have y:Q k=(Q k).set k (a 0):=by
   have:at' (Q k) (k:Int)=a 0:=by
    rw[lD t];simp[Q,a]
   rw[<-this];exact(MJ (Q k) (k:Int) (by simpa using t) (by omega)).symm
  rw[show(Q k)=(Q k).set k (a 0)from y];have h:∀A:bX,A.length=g.2.length->bH (tG 1000 g ((k:Int),lY g k,(Q k).set k (a 0)) d) 1000 ((0:Int),A.set k (a 0))=d (((k+1:Nat):Int),lY g (k+1),A.set k (f k)):=by
   intro A D;refine fM (step:=tG 1000 g ((k:Int),lY g k,(Q k).set k (a 0)) d) (K:=d (((k+1:Nat):Int),lY g (k+1),A.set k (f k))) (row g k).length (λj=>((j:Int),A.set k (a j))) (λj m C=> ?_) (λm=> ?_) 1000 (by omega)
   ·obtain⟨u,w,l⟩:=e.to i C;have B:=(e.node u w).deg;have x:at' (A.set k (a j)) (k:Int)=a j:=by rw[qQ _ _ _ _ (by omega),if_pos Z]
    have n:(a j).length=j:=by simp[a]
    unfold tG;dsimp only;rw[if_pos (show(j:Int)<((row g k).length:Int) by omega),cK (show 0<=(j:Int)∧(j:Int)<((row g k).length:Int) by omega),cK (by simp only[zA3];omega),show at' (at' g.2 (k:Int)) (j:Int)=fU (row g k) j from rfl,l,bB (show uJ 1000 _ (u:Int) (k:Int)=_ from Xe g u (k:Int) w (by omega)),x,cK (by rw[n];simp;omega),cK (by simp only[zA3];omega),dL (by omega),zAc,List.set_set];have:a j++[En (row g u) (k:Int)]=a (j+1):=by
     simp only[a];rw[List.range_succ,List.map_append,List.map_singleton,UG,l,zAc]
    rw[this]
   ·unfold tG AM;dsimp only;rw[if_neg (show¬((row g k).length:Int)<((row g k).length:Int)from Int.lt_irrefl _),dL (by omega)];rfl
  have:=h (Q k) (q k (by omega));rw[AI f [] g.2.length k i]at this;exact this
 ·unfold nW;dsimp only;rw[if_neg (by omega)];simp[Q,gR,f]
def pK (g:GR):Nat:=2^g.2.length - 1
theorem abn {g:GR} (b:VG g):pK g<4294967296:=by
 have a:=b.n24;have:(2:Nat)^g.2.length<=2^24:=Nat.pow_le_pow_right (by omega) a;unfold pK;omega
end Go.Proofs.YtcnnfkapmjhnaaaGreatDoor