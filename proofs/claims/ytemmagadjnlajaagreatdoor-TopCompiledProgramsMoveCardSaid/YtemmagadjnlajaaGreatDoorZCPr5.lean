/- Models and proofs. Conditions: none. -/
import Derived.Test.YtemmagadjnlajaaGreatDoorZCPr4
set_option linter.unusedVariables false
set_option linter.unusedSimpArgs false
set_option maxHeartbeats 4000000
set_option maxRecDepth 20000
open Go.Proofs.Tryz
variable (U:Nat)
namespace Go.Proofs.YtemmagadjnlajaaGreatDoor
open Go.Sx
def tO (a:Int):V1 (Int):=
 some (a)
def tP (a:Int):V1 (Int):=
 some (a)
def Am (c b a:Int):V1 (Int):=
 if c=(30:Int)then(Option.bind (mH U (wI .i64 (b*a))) λn=>(some (n)))else(if c=(31:Int)then(Option.bind (vJ U b a) λo=>(Option.bind (mH U o) λp=>(some (p))))else(if c=(32:Int)then(if a=(0:Int)then(some (0:Int))else(Option.bind (vJ U b a) λd=>(Option.bind (mH U (wI .i64 (b - (wI .i64 (a*d))))) λe=>(some (e)))))else(if c=(33:Int)then(Option.bind (mH U (wI .i64 (b+a))) λf=>(some (f)))else(if c=(34:Int)then(Option.bind (mH U (wI .i64 (b - a))) λg=>(some (g)))else(if c=(41:Int)then(if b≠(0:Int)then(Option.bind (lV U (decide (a≠(0:Int)))) λh=>(tO (h)))else(Option.bind (lV U false) λi=>(tO (i))))else(if c=(42:Int)then(if b≠(0:Int)then(Option.bind (lV U true) λj=>(tP (j)))else(Option.bind (lV U (decide (a≠(0:Int)))) λk=>(tP (k))))else(Option.bind (AN U c b a) λl=>(Option.bind (lV U l) λm=>(some (m))))))))))
theorem WR:aX prog 161:=call161
theorem Kc {E F G:Int} (r:Int) (h:Am U E F G=some r):
  aZ prog 161 #[vI (E),vI (F),vI (G)] [] (λx:Unit=>vI (r)) (λx l=>l) (λ_ l=>l):=by
 refine aZ.of func161 Z ntmps161 Z λc=>Q3 Z<|aI<|Q5 Z<|aM<|aU<|aT<|bP Z<|Q4 Z<|eF h Z (λh=>?_) λh=>?_
 .refine Q5 Z<|aA Z<|aC (C_ Z Z) Z<|dG h λH K h=>aK (zB8 Js (qQ U H K) Z .nil) Z λY=>Q4 Z<|aP<|bB<|aG ?_;cases h;exact gM Z
 refine aT<|bP Z<|Q4 Z<|eF h Z (λh=>?_) λh=>?_
 .refine Q5 Z<|aA Z<|dG h λI L h=>aK (zB8 WW (Is U I L) Z .nil) Z λx8=>dG h λJ s h=>aK (zB8 Js (qQ U J s) Z .nil) Z λM=>Q4 Z<|aP<|bB<|aG ?_;cases h;exact gM Z
 refine aT<|bP Z<|Q4 Z<|eF h Z (λh=>?_) λh=>?_
 .refine aI<|Q5 Z<|bP Z<|aM<|eF h Z (λh=>?_) λh=>?_
  .refine Q3 Z<|aP<|aG<|bB<|aG ?_;cases h;exact gM Z
  refine bK<|Q5 Z<|aA Z<|aA Z<|aA Z<|dG h λk t h=>aK (zB8 WW (Is U k t) Z .nil) Z λN=>aC (C_ Z Z) Z<|aC (kT Z Z) Z<|dG h λm u h=>aK (zB8 Js (qQ U m u) Z .nil) Z λO=>Q4 Z<|aP<|bB<|aG ?_;cases h;exact gM Z
 refine aT<|bP Z<|Q4 Z<|eF h Z (λh=>?_) λh=>?_
 .refine Q5 Z<|aA Z<|cP Z<|dG h λn v h=>aK (zB8 Js (qQ U n v) Z .nil) Z λP=>Q4 Z<|aP<|bB<|aG ?_;cases h;exact gM Z
 refine aT<|bP Z<|Q4 Z<|eF h Z (λh=>?_) λh=>?_
 .refine Q5 Z<|aA Z<|aC (kT Z Z) Z<|dG h λo w h=>aK (zB8 Js (qQ U o w) Z .nil) Z λQ=>Q4 Z<|aP<|bB<|aG ?_;cases h;exact gM Z
 refine aT<|bP Z<|Q4 Z<|eF h Z (λh=>?_) λh=>?_
 .refine aI<|cC (λa=>tO a=some r) (λa d=>[(6,vI (a))]) (λa d=>[]) ?_ ?_
  .refine aL<|aA Z<|lK Z<|aA Z<|mL h Z (λ_ h=>?_) λ_ h=>?_
   .exact bH Z<|aF Z (xH Z Z) Z<|bO Z<|dG h λf y h=>aK (zB8 Dq (oT U f y) Z .nil) Z λR=>Q4 Z<|cF (f) () h SF Z
   exact aD Z<|aD Z<|bT Z<|dG h λg z h=>aK (zB8 Dq (oT U g z) Z .nil) Z λS=>Q4 Z<|cF (g) () h SF Z
  intro a d h;unfold tO at h;refine aP<|bB<|aG ?_;cases h;exact gM Z
 refine aT<|bP Z<|Q4 Z<|eF h Z (λh=>?_) λh=>?_
 .refine aI<|cC (λb=>tP b=some r) (λb e=>[(6,vI (b))]) (λb e=>[]) ?_ ?_
  .refine aL<|aA Z<|lK Z<|aA Z<|mL h Z (λ_ h=>?_) λ_ h=>?_
   .exact aD Z<|aD Z<|bO Z<|dG h λi A h=>aK (zB8 Dq (oT U i A) Z .nil) Z λT=>Q4 Z<|cF (i) () h SF Z
   exact bH Z<|aF Z (xH Z Z) Z<|bT Z<|dG h λj B h=>aK (zB8 Dq (oT U j B) Z .nil) Z λV=>Q4 Z<|cF (j) () h SF Z
  intro b e h;unfold tP at h;refine aP<|bB<|aG ?_;cases h;exact gM Z
 refine cZ<|jZ<|Q5 Z<|aA Z<|aA Z<|dG h λp C h=>aK (zB8 adn (Ni U p C) Z .nil) Z λW=>dG h λq D h=>aK (zB8 Dq (oT U q D) Z .nil) Z λX=>Q4 Z<|aP ?_;cases h;exact gM Z
def gR (a:QJ) (d b c:Int):V1 (Int):=
 if d=(6:Int)then(some (a.2.1.1.length:Int))else(if d=(7:Int)then(some (a.2.2.1))else(if d=(8:Int)then(ck (0<=b/\b<(a.2.1.1.length:Int)) (some (at' a.2.1.1 b)))else(if d=(9:Int)then(ck (0<=b/\b<(a.2.1.2.length:Int)) (some ((at' a.2.1.2 b).length:Int)))else(if d=(10:Int)then(Option.bind (lV U (decide (b=(0:Int)))) λf=>(some (f)))else(if d=(11:Int)then(some (c))else(ck (0<=b/\b<(a.2.1.2.length:Int)) (ck (0<=c/\c<((at' a.2.1.2 b).length:Int)) (if d=(13:Int)then(ck (0<=((at' (at' a.2.1.2 b) c).1)/\((at' (at' a.2.1.2 b) c).1)<(a.2.1.1.length:Int)) (some (at' a.2.1.1 ((at' (at' a.2.1.2 b) c).1))))else(if d=(14:Int)then(ck (0<=((at' (at' a.2.1.2 b) c).1)/\((at' (at' a.2.1.2 b) c).1)<(a.2.1.2.length:Int)) (some ((at' a.2.1.2 ((at' (at' a.2.1.2 b) c).1)).length:Int)))else(if d=(15:Int)then(Option.bind (lV U (decide (((at' (at' a.2.1.2 b) c).1)=(0:Int)))) λe=>(some (e)))else(if d=(16:Int)then(some ((at' (at' a.2.1.2 b) c).2))else(ck (0<=b/\b<(a.2.2.2.length:Int)) (ck (0<=c/\c<((at' a.2.2.2 b).length:Int)) (some (at' (at' a.2.2.2 b) c)))))))))))))))
theorem WL:aX prog 121:=call121
theorem Ew (U:Nat) {p0:QJ} {s j k:Int} (e:Nat) (t u v w:V0) (F:oB) (y:V0) (G:nQ) (r:Int) (h:gR U p0 s j k=some r):
  aZ prog 121 #[vP e,vI (s),vI (j),vI (k)] [bU e [vS (p0.1.1),t,u,v,w,vI (p0.2.2.1),y] 142,Sl aN t p0.1.2.1,Sl aJ u p0.1.2.2,Sl cQ v p0.2.1.1,S2 aS w F p0.2.1.2,S2 cQ y G p0.2.2.2] (λx:Unit=>vI (r)) (λx l=>l) (λ_ l=>l):=by
 let m:=(at' (at' p0.2.1.2 j) k)
 refine aZ.of func121 Z ntmps121 Z λc=>?_;refine aT<|aB Z<|aM<|aI<|aT<|aA Z<|aM<|aU<|aT<|bP Z<|aB Z<|aM ?_;refine eF h Z (λh=>?_) λh=>?_
 .refine aT<|aA Z<|aC (aV Z) Z<|bD Z<|bD Z<|aC (eN Z (cG Z) Z Z Z) Z<|eL (EQ Z) Z<|aB Z<|aM<|aP<|bB<|aG ?_;cases h;exact gM Z
 refine aT<|bP Z<|aB Z<|aM ?_;refine eF h Z (λh=>?_) λh=>?_
 .refine aT<|aA Z<|aC (aV Z) Z<|bD Z<|aC (eN Z (cG Z) Z Z Z) Z<|aB Z<|aM<|aP<|bB<|aG ?_;cases h;exact gM Z
 refine aT<|bP Z<|aB Z<|aM ?_;refine eF h Z (λh=>?_) λh=>?_
 .refine aT<|aA Z<|aC (aV Z) Z<|bD Z<|bD Z<|aC (eN Z (cG Z) Z Z Z) Z<|aA Z<|eX h λq h=>aC (a_ Z Z (EQ Z) Z Z q) Z<|aC (eC Z (EQ Z) Z Z Z gC q) Z<|aB Z<|aM<|aP<|bB<|aG ?_;cases h;exact gM Z
 refine aT<|bP Z<|aB Z<|aM ?_;refine eF h Z (λh=>?_) λh=>?_
 .refine aT<|aA Z<|aC (aV Z) Z<|bD Z<|bD Z<|aC (eN Z (cG Z) Z Z Z) Z<|aA Z<|eX h λn h=>aC (fJ Z Z (Bl Z) Z Z n) Z<|aC (eI Z (Bl Z) Z Z n) Z<|aC (dO Z (zB9 (Bl Z) n.1 n.2) Z) Z<|aB Z<|aM<|aP<|bB<|aG ?_;cases h;exact gM Z
 refine aT<|bP Z<|aB Z<|aM ?_;refine eF h Z (λh=>?_) λh=>?_
 .refine aT<|aA Z<|bP Z<|dG h λB C h=>aK (zB8 Dq (oT U B C) Z .nil) Z λD=>aB Z<|aM<|aP<|bB<|aG ?_;cases h;exact gM Z
 refine aT<|bP Z<|aB Z<|aM ?_;refine eF h Z (λh=>?_) λh=>?_
 .refine aT<|aA Z<|aB Z<|aM<|aP<|bB<|aG ?_;cases h;exact gM Z
 refine cZ<|jZ<|aT<|aA Z<|aC (aV Z) Z<|bD Z<|bD Z<|aC (eN Z (cG Z) Z Z Z) Z<|aA Z<|eX h λa h=>aC (fJ Z Z (Bl Z) Z Z a) Z<|aC (eI Z (Bl Z) Z Z a) Z<|aA Z<|eX h λf h=>aC (a_ Z Z (zB9 (Bl Z) a.1 a.2) Z Z f) Z<|aC (eO (cs:=[vI (m.1),vI (m.2)]) Z (zB9 (Bl Z) a.1 a.2) dL Z Z Z Z f) Z<|aK (aO.alloc (cs:=SG) Z Z) Z λA=>cO 0 (vs:=[vI ((at' (at' p0.2.1.2 j) k).1),vI ((at' (at' p0.2.1.2 j) k).2)]) Z Z Z Z Z Z<|aM<|aI<|aT<|aA Z<|aM<|aU<|aT<|bP Z<|aB Z<|aM ?_;refine eF h Z (λh=>?_) λh=>?_
 .refine aI ?_;refine xP [0,1,3,7,15,0,32,127,255,511] 7 mixedOrders ?_;refine bE Z<|iD Z (aV Z)<|dA Z<|dA Z<|bI Z .nil (jP 0 Z) (eN Z (cG Z) Z Z Z) aR.z<|dA Z<|iH 0 Z<|bS 7 Z Z<|eX h λg h=>aC (a_ Z Z (EQ Z) Z Z g) Z<|aC (eC Z (EQ Z) Z Z Z gC g) Z<|aB Z<|aM<|aP<|bB<|aG ?_;cases h;exact mK Z
 refine aT<|bP Z<|aB Z<|aM ?_;refine eF h Z (λh=>?_) λh=>?_
 .refine aI ?_;refine xP [0,1,3,7,15,0,32,127,255,511,1023] 7 mixedOrders ?_;refine bE Z<|iD Z (aV Z)<|dA Z<|dA Z<|bI Z .nil (jP 0 Z) (eN Z (cG Z) Z Z Z) aR.z<|dA Z<|iH 0 Z<|bS 7 Z Z<|eX h λd h=>aC (fJ Z Z (Bl Z) Z Z d) Z<|aC (eI Z (Bl Z) Z Z d) Z<|aC (dO Z (zB9 (Bl Z) d.1 d.2) Z) Z<|aB Z<|aM<|aP<|bB<|aG ?_;cases h;exact mK Z
 refine aT<|bP Z<|aB Z<|aM ?_;refine eF h Z (λh=>?_) λh=>?_
 .refine aT<|bD Z<|bY 0 Z<|bP Z<|dG h λo p h=>aK (zB8 Dq (oT U o p) Z .nil) Z λE=>aB Z<|aM<|aP<|bB<|aG ?_;cases h;exact mK Z
 refine aT<|bP Z<|aB Z<|aM ?_;refine eF h Z (λh=>?_) λh=>?_
 .refine aT<|bD Z<|bY 0 Z<|aB Z<|aM<|aP<|bB<|aG ?_;cases h;exact mK Z
 refine cZ<|jZ<|aT<|aA Z<|aC (aV Z) Z<|bD Z<|aC (eN Z (cG Z) Z Z Z) Z<|aA Z<|eX h λb h=>aC (fJ Z Z (MU Z) Z Z b) Z<|aC (eI Z (MU Z) Z Z b) Z<|aA Z<|eX h λi h=>aC (a_ Z Z (zB9 (MU Z) b.1 b.2) Z Z i) Z<|aC (eC Z (zB9 (MU Z) b.1 b.2) Z Z Z gC i) Z<|aB Z<|aM<|aP ?_;cases h;exact mK Z
def nA (a:SD) (b:dJ) (c:Int):V1 (Int):=
 if b.1=(1:Int)then(some (b.2))else(if b.1=(2:Int)then(some (1:Int))else(if b.1=(3:Int)then(some (0:Int))else(if b.1=(4:Int)then(some (-1:Int))else(if b.1=(5:Int)then(ck (0<=a.2.2.1/\a.2.2.1<(a.2.1.length:Int)) (ck (0<=b.2/\b.2<((at' a.2.1 a.2.2.1).length:Int)) (some (at' (at' a.2.1 a.2.2.1) b.2))))else(if b.1=(12:Int)then(ck (0<=a.2.2.1/\a.2.2.1<(a.1.2.1.2.length:Int)) (ck (0<=c/\c<((at' a.1.2.1.2 a.2.2.1).length:Int)) (ck (0<=((at' (at' a.1.2.1.2 a.2.2.1) c).1)/\((at' (at' a.1.2.1.2 a.2.2.1) c).1)<(a.2.1.length:Int)) (ck (0<=b.2/\b.2<((at' a.2.1 ((at' (at' a.1.2.1.2 a.2.2.1) c).1)).length:Int)) (some (at' (at' a.2.1 ((at' (at' a.1.2.1.2 a.2.2.1) c).1)) b.2))))))else(Option.bind (gR U ((((a.1.1.1,a.1.1.2.1,a.1.1.2.2)),((a.1.2.1.1,a.1.2.1.2)),a.1.2.2.1,a.1.2.2.2)) b.1 a.2.2.1 c) λd=>(some (d))))))))
theorem adh:aX prog 163:=call163
theorem JM (U:Nat) {d:SD} {k:dJ} {y:Int} (g e:Nat) (o p q s:V0) (B:oB) (t:V0) (C:nQ) (A:V0) (v:nQ) (m:V0) (r:Int) (h:nA U d k y=some r):
  aZ prog 163 #[vP g,Value.agg #[vI (k.1),vI (k.2)],vI (y)] [bU g [vP e,A,vI (d.2.2.1),m] 198,bU e [vS (d.1.1.1),o,p,q,s,vI (d.1.2.2.1),t] 142,Sl aN o d.1.1.2.1,Sl aJ p d.1.1.2.2,Sl cQ q d.1.2.1.1,S2 aS s B d.1.2.1.2,S2 cQ t C d.1.2.2.2,S2 cQ A v d.2.1,Sl aS m d.2.2.2] (λx:Unit=>vI (r)) (λx l=>l) (λ_ l=>l):=by
 refine aZ.of func163 Z ntmps163 Z λc=>?_;refine aT<|aK (aO.box (cs:=[vI (k.1),vI (k.2)]) Z Z) Z λE=>aB Z<|aM<|aI<|aT<|bD Z<|bY 0 Z<|aM<|aU<|aT<|bP Z<|aB Z<|aM ?_;refine eF h Z (λh=>?_) λh=>?_
 .refine aT<|bD Z<|bY 0 Z<|aB Z<|aM<|aP<|bB<|aG ?_;cases h;exact mK Z
 refine aT<|bP Z<|aB Z<|aM ?_;refine eF h Z (λh=>?_) λh=>?_
 .refine aT<|aB Z<|aM<|aP<|bB<|aG ?_;cases h;exact mK Z
 refine aT<|bP Z<|aB Z<|aM ?_;refine eF h Z (λh=>?_) λh=>?_
 .refine aT<|aB Z<|aM<|aP<|bB<|aG ?_;cases h;exact mK Z
 refine aT<|bP Z<|aB Z<|aM ?_;refine eF h Z (λh=>?_) λh=>?_
 .refine aT<|aB Z<|aM<|aP<|bB<|aG ?_;cases h;exact mK Z
 refine aT<|bP Z<|aB Z<|aM ?_;refine eF h Z (λh=>?_) λh=>?_
 .refine aI ?_;refine xP [0,1,3,7,0,16,48,112,255,511,0,1024,4095,8191,16383] 12 mixedOrders ?_;refine bE Z<|iD Z (aV Z)<|dA Z<|bI Z .nil (jP 0 Z) (eN Z (cG Z) Z Z Z) aR.z<|bE Z<|iD Z (aV Z)<|dA Z<|bI Z .nil (jP 0 Z) (eN Z (cG Z) Z Z Z) aR.z<|eX h λf h=>bI Z .nil (jP 7 Z) (fJ Z Z (cG Z) Z Z f) aR.z<|bI Z .nil (jP 7 Z) (eI Z (cG Z) Z Z f) aR.z<|dA Z<|iH 0 Z<|bS 12 Z Z<|eX h λw h=>aC (a_ Z Z (zB9 (aQ.fact 7 Z) f.1 f.2) Z Z w) Z<|aC (eC Z (zB9 (aQ.fact 7 Z) f.1 f.2) Z Z Z gC w) Z<|aB Z<|aM<|aP<|bB<|aG ?_;cases h;exact mK Z
 refine aT<|bP Z<|aB Z<|aM ?_;refine eF h Z (λh=>?_) λh=>?_
 .refine aI ?_;refine xP [0,1,3,7,0,16,48,112,240,496,1008,2032,0,4096,12288,28672,65520,131056,0,524272,1048560,2097136,4194303,8388607,0,16777216,67108863,134217727,268435455] 26 mixedOrders ?_;refine bE Z<|iD Z (aV Z)<|dA Z<|bI Z .nil (jP 0 Z) (eN Z (cG Z) Z Z Z) aR.z<|bE Z<|iD Z (aV Z)<|dA Z<|bI Z .nil (jP 0 Z) (eN Z (cG Z) Z Z Z) aR.z<|iD Z (aV Z)<|dA Z<|dA Z<|bI Z .nil (jP 1 Z) (eN Z (cG Z) Z Z Z) aR.z<|bE Z<|iD Z (aV Z)<|dA Z<|bI Z .nil (jP 0 Z) (eN Z (cG Z) Z Z Z) aR.z<|eX h λa h=>bI Z .nil (jP 5 Z) (fJ Z Z (cG Z) Z Z a) aR.z<|bI Z .nil (jP 5 Z) (eI Z (cG Z) Z Z a) aR.z<|bE Z<|eX h λi h=>bI Z .nil (jP 5 Z) (a_ Z Z (zB9 (cG Z) a.1 a.2) Z Z i) aR.z<|iD Z (cB Z Z Z Z Z)<|bI Z .nil (jP 5 Z) (fW Z (zB9 (cG Z) a.1 a.2) Z Z Z kS i) aR.z<|eX h λb h=>bI Z .nil (jP 7 Z) (fJ Z Z (cG Z) Z Z b) aR.z<|bI Z .nil (jP 7 Z) (eI Z (cG Z) Z Z b) aR.z<|dA Z<|iH 0 Z<|bS 26 Z Z<|eX h λj h=>aC (a_ Z Z (zB9 (aQ.fact 7 Z) b.1 b.2) Z Z j) Z<|aC (eC Z (zB9 (aQ.fact 7 Z) b.1 b.2) Z Z Z gC j) Z<|aB Z<|aM<|aP<|bB<|aG ?_;cases h;exact mK Z
 refine cZ<|jZ<|aI ?_;refine xP [0,1,3,7,0,16,0,64,192,448,0,2047,4095] 11 mixedOrders ?_;refine bE Z<|iD Z (aV Z)<|dA Z<|bI Z .nil (jP 0 Z) (eN Z (cG Z) Z Z Z) aR.z<|dA Z<|iH 0 Z<|bE Z<|iD Z (aV Z)<|dA Z<|bI Z .nil (jP 0 Z) (eN Z (cG Z) Z Z Z) aR.z<|bE Z<|bS 11 Z Z<|dG h λn u h=>aK (zB8 WL (Ew U e o p q s B t C n u) Z (gK [1,2,3,4,5,6] Z)) Z λD=>aB Z<|aM<|aP ?_;cases h;exact mK Z
def wP (a:dJ):V1 dW:=
 some (a.1,a.2)
def nV (a:SD) (e:Int) (b:Int×bN) (c:Int):V1 dW:=
 ck (0<=((at' a.1.2.1.2 a.2.2.1).length:Int)/\((at' a.1.2.1.2 a.2.2.1).length:Int)<=((24:Nat):Int)/\((at' a.1.2.1.2 a.2.2.1).length:Int)<=(b.2.length:Int)) (Option.bind (En U ((at' a.2.2.2 e).1) (List.take (Int.toNat ((at' a.1.2.1.2 a.2.2.1).length:Int)) b.2)) λd=>(wP (d,c)))
def wQ (b:SD) (c:Int) (a:Int×bN):V1 dW:=
 if((at' b.1.2.1.2 b.2.2.1).length:Int)=(0:Int)then(Option.bind (De U b.2.2.2 c) λd=>(nV U b c a (d)))else(nV U b c a (a.1))
def nW (b:SD) (e:Int) (f:XS->Int->Int->V1 dW) (a:Nh) (c:Nf->V1 dW):V1 dW:=
 if a.2.1<((at' b.1.2.1.2 b.2.2.1).length:Int)then(Option.bind (f ((((((b.1.1.1,b.1.1.2.1,b.1.1.2.2)),((b.1.2.1.1,b.1.2.1.2)),b.1.2.2.1,b.1.2.2.2)),b.2.1,b.2.2.1,b.2.2.2)) (wI .i64 (e+(1:Int))) a.2.1) λd=>(ck ((0<=a.2.1/\a.2.1<((24:Nat):Int))/\a.2.2.length=24) (c (d.2,(wI .i64 (a.2.1+(1:Int))),(List.set a.2.2 (Int.toNat a.2.1) d.1)))))else(wQ U b e (a.1,a.2.2))
def gO (e:XS->Int->Int->V1 dW) (U:Nat) (a:SD) (b c:Int):V1 dW:=
 ck (0<=b/\b<(a.2.2.2.length:Int)) (if((at' a.2.2.2 b).1)<=(17:Int)then(Option.bind (nA U ((((((a.1.1.1,a.1.1.2.1,a.1.1.2.2)),((a.1.2.1.1,a.1.2.1.2)),a.1.2.2.1,a.1.2.2.2)),a.2.1,a.2.2.1,a.2.2.2)) ((((at' a.2.2.2 b).1),((at' a.2.2.2 b).2))) c) λm=>(some (m,(wI .i64 (b+(1:Int))))))else(if((at' a.2.2.2 b).1)<=(19:Int)then(Option.bind (e ((((((a.1.1.1,a.1.1.2.1,a.1.1.2.2)),((a.1.2.1.1,a.1.2.1.2)),a.1.2.2.1,a.1.2.2.2)),a.2.1,a.2.2.1,a.2.2.2)) (wI .i64 (b+(1:Int))) c) λl=>(Option.bind (BU U ((at' a.2.2.2 b).1) l.1) λj=>(some (j,l.2))))else(if((at' a.2.2.2 b).1)<=(29:Int)then(ck (0<=a.2.2.1/\a.2.2.1<(a.1.2.1.2.length:Int)) (bG (nW U a b e) U ((0:Int),(0:Int),(List.replicate 24 (0:Int)))))else(if((at' a.2.2.2 b).1)<=(42:Int)then(Option.bind (e ((((((a.1.1.1,a.1.1.2.1,a.1.1.2.2)),((a.1.2.1.1,a.1.2.1.2)),a.1.2.2.1,a.1.2.2.2)),a.2.1,a.2.2.1,a.2.2.2)) (wI .i64 (b+(1:Int))) c) λf=>(Option.bind (e ((((((a.1.1.1,a.1.1.2.1,a.1.1.2.2)),((a.1.2.1.1,a.1.2.1.2)),a.1.2.2.1,a.1.2.2.2)),a.2.1,a.2.2.1,a.2.2.2)) f.2 c) λg=>(Option.bind (Am U ((at' a.2.2.2 b).1) f.1 g.1) λk=>(some (k,g.2)))))else(Option.bind (e ((((((a.1.1.1,a.1.1.2.1,a.1.1.2.2)),((a.1.2.1.1,a.1.2.1.2)),a.1.2.2.1,a.1.2.2.2)),a.2.1,a.2.2.1,a.2.2.2)) (wI .i64 (b+(1:Int))) c) λh=>(Option.bind (e ((((((a.1.1.1,a.1.1.2.1,a.1.1.2.2)),((a.1.2.1.1,a.1.2.1.2)),a.1.2.2.1,a.1.2.2.2)),a.2.1,a.2.2.1,a.2.2.2)) h.2 c) λi=>(Option.bind (e ((((((a.1.1.1,a.1.1.2.1,a.1.1.2.2)),((a.1.2.1.1,a.1.2.1.2)),a.1.2.2.1,a.1.2.2.2)),a.2.1,a.2.2.1,a.2.2.2)) i.2 c) λd=>(if h.1≠(0:Int)then(some (i.1,d.2))else(some (d.1,d.2))))))))))
def cV:Nat->XS->Int->Int->V1 dW
 |0,_,_,_=>none
 |U+1,p0,p1,p2=>gO (cV U) U p0 p1 p2
theorem Gp:aX prog 125:=call125
theorem Ig (rc:XS->Int->Int->Option dW) (U:Nat) (p:∀{a:SD} {m:Int} {O:Int} (b:Nat) (f:Nat) (q:V0) (s:V0) (t:V0) (u:V0) (C:oB) (v:V0) (D:nQ) (w:V0) (g:nQ) (d:V0) (r:dJ),rc a m O=some r->aZ prog 125 #[vP b,vI (m),vI (O)] [bU b [vP f,w,vI (a.2.2.1),d] 198,bU f [vS (a.1.1.1),q,s,t,u,vI (a.1.2.2.1),v] 142,Sl aN q a.1.1.2.1,Sl aJ s a.1.1.2.2,Sl cQ t a.1.2.1.1,S2 aS u C a.1.2.1.2,S2 cQ v D a.1.2.2.2,S2 cQ w g a.2.1,Sl aS d a.2.2.2] (λx:Unit=>Value.tuple #[vI (r.1),vI (r.2)]) (λx l=>l) (λ_ l=>l)) {a:SD} {m O:Int} (b f:Nat) (q s t u:V0) (C:oB) (v:V0) (D:nQ) (w:V0) (g:nQ) (d:V0) (r:dJ) (h:gO rc U a m O=some r):
  aZ prog 125 #[vP b,vI (m),vI (O)] [bU b [vP f,w,vI (a.2.2.1),d] 198,bU f [vS (a.1.1.1),q,s,t,u,vI (a.1.2.2.1),v] 142,Sl aN q a.1.1.2.1,Sl aJ s a.1.1.2.2,Sl cQ t a.1.2.1.1,S2 aS u C a.1.2.1.2,S2 cQ v D a.1.2.2.2,S2 cQ w g a.2.1,Sl aS d a.2.2.2] (λx:Unit=>Value.tuple #[vI (r.1),vI (r.2)]) (λx l=>l) (λ_ l=>l):=by
 let P:=(List.replicate 24 (0:Int))
 let G:=vI ((at' a.2.2.2 m).1);let E:=((at' a.1.2.1.2 a.2.2.1).length:Int)
 refine aZ.of func125 Z ntmps125 Z λc=>?_;refine aT<|aB Z<|aB Z<|aM<|aT<|aA Z<|aC (aV Z) Z<|bD Z<|aC (eN Z (cG Z) Z Z Z) Z<|aA Z<|eX h λj1 h=>aC (a_ Z Z (aQ.fact 8 Z) Z Z j1) Z<|aC (eO (cs:=[G,vI ((at' a.2.2.2 m).2)]) Z (aQ.fact 8 Z) dL Z Z Z Z j1) Z<|aK (aO.alloc (cs:=SG) Z Z) Z λb2=>cO 0 (vs:=[vI ((at' a.2.2.2 m).1),vI ((at' a.2.2.2 m).2)]) Z Z Z Z Z Z<|aM<|aI<|aU<|aT<|bD Z<|bY 0 Z<|aC (nH Z Z) Z<|aB Z<|aM ?_;refine eF h Z (λh=>?_) λh=>?_
 .refine aT<|aA Z<|fQ 0 Z<|aA Z<|dG h λr4 w5 h=>aK (zB8 adh (JM U b f q s t u C v D w g d r4 w5) Z (gK [0,1,2,3,4,5,6,7,8] Z)) Z λx6=>aA Z<|cP Z<|aB Z<|aB Z<|aM<|aP<|bB<|aG ?_;cases h;exact gA () Z Z (RV.tmp Z) (RV.tmp Z) .nil aE.nil
 refine aT<|bD Z<|bY 0 Z<|aC (nH Z Z) Z<|aB Z<|aM ?_;refine eF h Z (λh=>?_) λh=>?_
 .refine aT<|aA Z<|aA Z<|cP Z<|aA Z<|dG h λr8 w9 h=>aK (zB8 Gp (p b f q s t u C v D w g d r8 w9) Z (gK [0,1,2,3,4,5,6,7,8] Z)) Z λam=>aA Z<|fL Z<|fL Z<|aB Z<|aB Z<|aM<|aT<|bD Z<|bY 0 Z<|aA Z<|dG h λS ab h=>aK (zB8 WQ (Lt U S ab) Z .nil) Z λan=>aA Z<|aB Z<|aB Z<|aM<|aP<|bB<|aG ?_;cases h;exact gA () Z Z (RV.tmp Z) (RV.tmp Z) .nil aE.nil
 refine aT<|bD Z<|bY 0 Z<|aC (nH Z Z) Z<|aB Z<|aM ?_;refine eF h Z (λh=>?_) λh=>?_
 .refine aT<|aA Z<|bD Z<|bY 0 Z<|aA Z<|IC (A:=dJ) (B:=Unit) (vs:=[vP b,vI ((at' a.2.2.2 m).1),vI (m)]) (λn=>wP n=some r) (λn I=>Value.tuple #[vI (n.1),vI (n.2)]) (λn I=>[]) (λn I=>[bU b [vP f,w,vI (a.2.2.1),d] 198,bU f [vS (a.1.1.1),q,s,t,u,vI (a.1.2.2.1),v] 142,Sl aN q a.1.1.2.1,Sl aJ s a.1.1.2.2,Sl cQ t a.1.2.1.1,S2 aS u C a.1.2.1.2,S2 cQ v D a.1.2.2.2,S2 cQ w g a.2.1,Sl aS d a.2.2.2]) (BB.fn (show aX prog 164 from call164) Z) func164 Z ntmps164 Z Z ?_ ?_
  .refine aT<|aB Z<|aB Z<|aM<|aT ?_;refine aK (aO.alloc (cs:=cellsOf cK P) Z (by kernel_rfl)) Z λo=>?_;refine aM<|aI ?_;refine xP [0,1,3,7,15,31,63,127,0,256,768,1792,4095,8191,16383,32767] 12 mixedOrders ?_;refine bE Z<|iD Z (aV Z)<|dA Z<|bI Z .nil (jP 0 Z) (eN Z (cG Z) Z Z Z) aR.z<|iD Z (aV Z)<|dA Z<|dA Z<|bI Z .nil (jP 1 Z) (eN Z (cG Z) Z Z Z) aR.z<|bE Z<|iD Z (aV Z)<|dA Z<|bI Z .nil (jP 0 Z) (eN Z (cG Z) Z Z Z) aR.z<|bS 12 Z Z<|eX h λF h=>aC (fJ Z Z (MU Z) Z Z F) Z<|aC (eI Z (MU Z) Z Z F) Z<|aC (dO Z (zB9 (MU Z) F.1 F.2) Z) Z<|aB Z<|aM<|aI<|cC (λk=>wQ U a m k=some r) (λk J=>[(0,vP b),(1,G),(2,vI (m)),(7,vI (k.1)),(8,vP o),(9,vI E)]) (λk J=>[bU o (cellsOf cK k.2) 253]) ?_ ?_
   .refine aT<|aA Z<|aA Z<|aM<|aU<|eP (nW U a m rc) (λj L=>[(0,vP b),(1,G),(2,vI (m)),(7,vI (j.1)),(8,vP o),(9,vI E),(26,vI E),(27,vI (j.2.1))]) (λj L=>[bU o (cellsOf cK j.2.2) 253]) ((0:Int),(0:Int),P) () h SF (aW.ix [0] Z Z) ?_;intro al j L h;refine aT<|cX Z<|aM<|aI ?_;refine eF h Z (λh=>?_) λh=>?_
    .refine bK<|aI<|aU<|aT<|aA Z<|aB Z<|aM<|aL<|aA Z<|aA Z<|aA Z<|cP Z<|aA Z<|dG h λH ae h=>aK (zB8 Gp (p b f q s t u C v D w g d H ae) Z (gK [0,1,2,3,4,5,6,7,8] Z)) Z λaq=>aA Z<|fL Z<|fL Z<|eX h λN h=>aC (jA Z Z Z Z Z N.1) Z<|Oa 0 (e:=cK) H.1 N Z Z Z Z Z Z Z<|aB Z<|dK<|jZ<|aL<|cP Z<|aA Z<|aM ?_;exact Ac (H.2,(wI .i64 (j.2.1+(1:Int))),(List.set j.2.2 (Int.toNat j.2.1) H.1)) () h SF Z
    refine fK ?_;exact cF (j.1,j.2.2) () h SF Z
   intro k J h;refine aI<|cC (λy=>nV U a m k y=some r) (λy K=>[(1,G),(7,vI (y)),(8,vP o),(9,vI E)]) (λy K=>[bU o (cellsOf cK k.2) 253]) ?_ ?_
   .refine aT<|aA Z<|bP Z<|aM ?_;refine eF h Z (λh=>?_) λh=>?_
    .refine aL<|aA Z<|aC (aV Z) Z<|bD Z<|aC (eN Z (cG Z) Z Z Z) Z<|aA Z<|dG h λR ad h=>aK (zB8 Vq (KB U d R ad) Z (gK [8] Z)) Z λap=>aB Z<|aM ?_;exact cF (R) () h SF Z
    refine bK ?_;exact cF (k.1) () h SF Z
   intro y K h;refine aT<|aA Z<|aA Z<|eX h λM h=>aC (Vk Z Z Z Z M) Z<|dG h λQ ac h=>aK (zB8 WS (Na U (Value.slice (some ⟨o,0,none⟩) (Int.toNat E) 24) Q ac) Z (aE.cons (ZE (i:=0) Z fH M (by decide)) .nil)) Z λao=>?_;refine aA Z<|aB Z<|aB Z<|aM<|aP ?_;exact uT (Q,y) () h (.inl Z) (Kk.r2 Z (RV.tmp Z) (RV.tmp Z)) Z .nil (aE.refl _ _)
  intro n I h;unfold wP at h;refine fL Z<|fL Z<|aB Z<|aB Z<|aM<|aP<|bB<|aG ?_;cases h;exact gA () Z Z (RV.tmp Z) (RV.tmp Z) (aW.refl _) aE.nil
 refine aT<|bD Z<|bY 0 Z<|aC (nH Z Z) Z<|aB Z<|aM ?_;refine eF h Z (λh=>?_) λh=>?_
 .refine aT<|aA Z<|aA Z<|cP Z<|aA Z<|dG h λT af h=>aK (zB8 Gp (p b f q s t u C v D w g d T af) Z (gK [0,1,2,3,4,5,6,7,8] Z)) Z λar=>aA Z<|fL Z<|fL Z<|aB Z<|aB Z<|aM<|aT<|aA Z<|aA Z<|aA Z<|dG h λV ag h=>aK (zB8 Gp (p b f q s t u C v D w g d V ag) Z (gK [0,1,2,3,4,5,6,7,8] Z)) Z λau=>aA Z<|fL Z<|fL Z<|aB Z<|aB Z<|aM<|aT<|bD Z<|bY 0 Z<|aA Z<|aA Z<|dG h λW ah h=>aK (zB8 WR (Kc U W ah) Z .nil) Z λav=>aA Z<|aB Z<|aB Z<|aM<|aP<|bB<|aG ?_;cases h;exact gA () Z Z (RV.tmp Z) (RV.tmp Z) .nil aE.nil
 refine cZ<|jZ<|aT<|aA Z<|aA Z<|cP Z<|aA Z<|dG h λX ai h=>aK (zB8 Gp (p b f q s t u C v D w g d X ai) Z (gK [0,1,2,3,4,5,6,7,8] Z)) Z λaw=>aA Z<|fL Z<|fL Z<|aB Z<|aB Z<|aM<|aT<|aA Z<|aA Z<|aA Z<|dG h λY aj h=>aK (zB8 Gp (p b f q s t u C v D w g d Y aj) Z (gK [0,1,2,3,4,5,6,7,8] Z)) Z λax=>aA Z<|fL Z<|fL Z<|aB Z<|aB Z<|aM<|aT<|aA Z<|aA Z<|aA Z<|dG h λaa ak h=>aK (zB8 Gp (p b f q s t u C v D w g d aa ak) Z (gK [0,1,2,3,4,5,6,7,8] Z)) Z λay=>aA Z<|fL Z<|fL Z<|aB Z<|aB Z<|aM<|aI<|aT<|aA Z<|lK Z<|aM ?_;refine eF h Z (λh=>?_) λh=>?_
 .refine aT<|aA Z<|aA Z<|aB Z<|aB Z<|aM<|aP<|aG ?_;cases h;exact gA () Z Z (RV.tmp Z) (RV.tmp Z) .nil aE.nil
 refine bK<|aT<|aA Z<|aA Z<|aB Z<|aB Z<|aM<|aP ?_;cases h;exact gA () Z Z (RV.tmp Z) (RV.tmp Z) .nil aE.nil
theorem IW:∀{a:SD} {p:Int} {q:Int} (b:Nat) (c:Nat) (f:V0) (g:V0) (i:V0) (j:V0) (n:oB) (k:V0) (o:nQ) (m:V0) (e:nQ) (d:V0) (r:dJ),cV U a p q=some r->
  aZ prog 125 #[vP b,vI (p),vI (q)] [bU b [vP c,m,vI (a.2.2.1),d] 198,bU c [vS (a.1.1.1),f,g,i,j,vI (a.1.2.2.1),k] 142,Sl aN f a.1.1.2.1,Sl aJ g a.1.1.2.2,Sl cQ i a.1.2.1.1,S2 aS j n a.1.2.1.2,S2 cQ k o a.1.2.2.2,S2 cQ m e a.2.1,Sl aS d a.2.2.2] (λx:Unit=>Value.tuple #[vI (r.1),vI (r.2)]) (λx l=>l) (λ_ l=>l):=by
 induction U with
 |zero=>intros;rename_i h;cases h
 |succ U s=>exact λb c f g i j n k o m e d r h=>Ig (cV U) U s b c f g i j n k o m e d r h
end Go.Proofs.YtemmagadjnlajaaGreatDoor
namespace Go.Proofs.YtemmagadjnlajaaGreatDoor
open Go Go.Sx
abbrev GRF:=V6 Int×pT
abbrev SCN:=PG×GRF×Int×fE
abbrev WLK:=SCN×fE×Int×V6 TM
def Wd (x:Int):Int:=max (-1073741824) (min x 1073741824)
def unD (o x:Int):Int:=if o=18 then wI .i64 (0 - x)else Yq (decide (x=0))
def aes (a b:Int):Int:=if b=0 then 0 else if Int.tmod a b≠0/\((decide (a<0)) != (decide (b<0)))=true then wI .i64 (wI .i64 (Int.tdiv a b) - 1)else wI .i64 (Int.tdiv a b)
def agX (o x y:Int):V4:=if o=35 then decide (x=y)else if o=36 then decide (x≠y)else if o=37 then decide (x<y)else if o=38 then decide (x<=y)else if o=39 then decide (y<x)else decide (y<=x)
def biD (o x y:Int):Int:=
 if o=30 then Wd (wI .i64 (x*y))else if o=31 then Wd (aes x y)else if o=32 then(if y=0 then 0 else Wd (wI .i64 (x - wI .i64 (y*aes x y))))else if o=33 then Wd (wI .i64 (x+y))else if o=34 then Wd (wI .i64 (x - y))
 else if o=41 then Yq (decide (x≠0)&&decide (y≠0))else if o=42 then Yq (decide (x≠0)||decide (y≠0))else Yq (agX o x y)
theorem Ux (f:Nat) (o x:Int):BU f o x=some (unD o x):=by
 unfold BU unD;split
 .rfl
 .rw[aY (AC f _)]
theorem abx (f:Nat) (a b:Int):vJ f a b=some (aes a b):=by
 unfold vJ aes;by_cases c:b=0
 .rw[if_pos c,if_pos c]
 .rw[if_neg c,if_neg c,dM c,dM c];by_cases d:Int.tmod a b=0
  .rw[if_neg (by simpa using d),if_neg (by simp[d])];rfl
  .rw[if_pos d];unfold zE tQ;by_cases e:((decide (a<0)) != (decide (b<0)))=true
   .rw[if_pos e,if_pos ⟨d,e⟩]
   .rw[if_neg e,if_neg (λq=>e q.2)]
theorem agY (f:Nat) (o x y:Int):AN f o x y=some (agX o x y):=by
 unfold AN agX
 repeat' split
 all_goals rfl
theorem Qq (f:Nat) (o x y:Int):Am f o x y=some (biD o x y):=by
 unfold Am biD;by_cases h:o=30
 .rw[if_pos h,if_pos h];rfl
 rw[if_neg h,if_neg h];by_cases h:o=31
 .rw[if_pos h,if_pos h,aY (abx f x y)];rfl
 rw[if_neg h,if_neg h];by_cases h:o=32
 .rw[if_pos h,if_pos h];by_cases b:y=0
  .rw[if_pos b,if_pos b]
  .rw[if_neg b,if_neg b,aY (abx f x y)];rfl
 rw[if_neg h,if_neg h];by_cases h:o=33
 .rw[if_pos h,if_pos h];rfl
 rw[if_neg h,if_neg h];by_cases h:o=34
 .rw[if_pos h,if_pos h];rfl
 rw[if_neg h,if_neg h];by_cases h:o=41
 .rw[if_pos h,if_pos h];by_cases a:x=0
  .rw[if_neg (by simpa using a),aY (AC f _)];simp[a,tO]
  .rw[if_pos a,aY (AC f _)];simp[a,tO]
 rw[if_neg h,if_neg h];by_cases h:o=42
 .rw[if_pos h,if_pos h];by_cases a:x=0
  .rw[if_neg (by simpa using a),aY (AC f _)];simp[a,tP]
  .rw[if_pos a,aY (AC f _)];simp[a,tP]
 rw[if_neg h,if_neg h,aY (agY f o x y),aY (AC f _)]
def X.den (L:TM->Int->Int) (a:Nat):X->Int->Int
 |lf t,p=>L t p
 |un t x,p=>if agg t.1=true then Gu t.1 ((List.range a).map λq=>x.den L a ((q:Nat):Int))else unD t.1 (x.den L a p)
 |bi t x y,p=>biD t.1 (x.den L a p) (y.den L a p)
 |tr t x y z,p=>if x.den L a p≠0 then y.den L a p else z.den L a p
def wfL (a:Nat) (b:V4) (t:TM):Prop:=(b=true\/t.1<=10)/\EL a t=true
def X.wf (nv:Nat):V4->X->Prop
 |b,lf t=>wfL nv b t
 |b,un t x=>x.wf nv (b||agg t.1)
 |b,bi _ x y=>x.wf nv b/\y.wf nv b
 |b,tr _ x y z=>x.wf nv b/\y.wf nv b/\z.wf nv b
def VO (W:WLK) (p:Int):Int:=(at' (at' W.1.2.1.2 W.2.2.1) p).1
def SL (W:WLK) (o a p:Int):Int:=
 if o=1 then a else if o=2 then 1 else if o=3 then 0 else if o=4 then -1 else if o=5 then at' (at' W.2.1 W.2.2.1) a else if o=12 then at' (at' W.2.1 (VO W p)) a
 else if o=6 then(W.1.2.1.1.length:Int)else if o=7 then W.1.2.2.1 else if o=8 then at' W.1.2.1.1 W.2.2.1 else if o=9 then((at' W.1.2.1.2 W.2.2.1).length:Int)else if o=10 then Yq (decide (W.2.2.1=0))else if o=11 then p
 else if o=13 then at' W.1.2.1.1 (VO W p)else if o=14 then((at' W.1.2.1.2 (VO W p)).length:Int)else if o=15 then Yq (decide (VO W p=0))else if o=16 then(at' (at' W.1.2.1.2 W.2.2.1) p).2 else at' (at' W.1.2.2.2 W.2.2.1) p
structure WOk (W:WLK) (nv n v:Nat):Prop where
 node:W.2.2.1=(v:Int)
 lt:v<n
 ports:W.1.2.1.2.length=n
 ids:W.1.2.1.1.length=n
 c:W.2.1.length=n
 row:∀u:Nat,u<n->(at' W.2.1 (u:Int)).length=nv
 to:∀u:Nat,u<n->∀i:Nat,i<(at' W.1.2.1.2 (u:Int)).length->0<=(at' (at' W.1.2.1.2 (u:Int)) (i:Int)).1/\(at' (at' W.1.2.1.2 (u:Int)) (i:Int)).1<(n:Int)
 bl:W.1.2.2.2.length=n
 br:∀u:Nat,u<n->(at' W.1.2.2.2 (u:Int)).length=(at' W.1.2.1.2 (u:Int)).length
def GL (b:V4) (a:Nat) (p:Int):Prop:=b=true->∃q:Nat,p=(q:Int)/\q<a
theorem Xx {W:WLK} {i n v:Nat} (h:WOk W i n v) (f:Nat) {b:V4} {o a p:Int} (B:Fu o=some 0) (m:wfL i b (o,a)) (t:GL b (at' W.1.2.1.2 (v:Int)).length p):nA f W (o,a) p=some (SL W o a p):=by
 have⟨z,c,C,D,E,s,g,G,x⟩:=h;have⟨H,I⟩:=MH B;have⟨d,r⟩:=m;have J:(o≠5/\o≠12)\/(0<=a/\a<(i:Int)):=by
  by_cases g:o=5\/o=12
  .exact .inr (Nz r g)
  .exact .inl ⟨λh=>g (.inl h),λh=>g (.inr h)⟩
 have A:(at' W.2.1 (v:Int)).length=i:=s v c;unfold nA SL VO;dsimp only;rw[z];by_cases e:o=1
 .simp only[if_pos e]
 simp only[if_neg e];by_cases e:o=2
 .simp only[if_pos e]
 simp only[if_neg e];by_cases e:o=3
 .simp only[if_pos e]
 simp only[if_neg e];by_cases e:o=4
 .simp only[if_pos e]
 simp only[if_neg e];by_cases e:o=5
 .simp only[if_pos e];rw[Q6,Q6]
 simp only[if_neg e];by_cases e:o=12
 .have k:b=true:=by
   rcases d with d|d
   .exact d
   .omega
  obtain⟨q,rfl,l⟩:=t k;have j:=g v c q l;obtain⟨u,y⟩:∃u:Nat,(at' (at' W.1.2.1.2 (v:Int)) (q:Int)).1=(u:Int):=⟨_,(Int.toNat_of_nonneg j.1).symm⟩
  simp only[if_pos e];rw[y]at j ⊢;have F:=s u V7;rw[Q6,Q6,Q6,Q6]
 simp only[if_neg e];unfold gR;dsimp only;by_cases e:o=6
 .simp only[if_pos e];rfl
 simp only[if_neg e];by_cases e:o=7
 .simp only[if_pos e];rfl
 simp only[if_neg e];by_cases e:o=8
 .simp only[if_pos e];rw[Q6];rfl
 simp only[if_neg e];by_cases e:o=9
 .simp only[if_pos e];rw[Q6];rfl
 simp only[if_neg e];by_cases e:o=10
 .simp only[if_pos e];rw[aY (AC f _)];rfl
 simp only[if_neg e];by_cases e:o=11
 .simp only[if_pos e];rfl
 simp only[if_neg e];have k:b=true:=by
  rcases d with d|d
  .exact d
  .omega
 obtain⟨q,rfl,l⟩:=t k;have j:=g v c q l;rw[Q6,Q6];by_cases e:o=13
 .simp only[if_pos e];rw[Q6];rfl
 simp only[if_neg e];by_cases e:o=14
 .simp only[if_pos e];rw[Q6];rfl
 simp only[if_neg e];by_cases e:o=15
 .simp only[if_pos e];rw[aY (AC f _)];rfl
 simp only[if_neg e];by_cases e:o=16
 .simp only[if_pos e];rfl
 simp only[if_neg e];have w:=x v c;rw[Q6,Q6];rfl
def lfW (W:WLK) (t:TM) (p:Int):Int:=SL W t.1 t.2 p
theorem acf {W:WLK} {T n v:Nat} (h:WOk W T n v) {deg:Nat} (g:(at' W.1.2.1.2 (v:Int)).length=deg) (O:deg<=24) (ad:W.2.2.2.length<=800):
  ∀(x:X),x.ok->∀(b:V4) (c:Nat) (p:Int) (d e:V6 TM),W.2.2.2=d++(x.ts++e)->x.wf T b->GL b deg p->x.depth+850<=c->
   cV c W (d.length:Int) p=some (x.den (lfW W) deg p,(((d.length+x.ts.length:Nat)):Int)):=by
 have⟨S,ae,G,H,Y,h4,h5,_,_⟩:=id h;have i:∀{t:TM} {l d e:V6 TM},W.2.2.2=d++((t::l)++e)->at' W.2.2.2 (d.length:Int)=t/\(d.length:Int)<(W.2.2.2.length:Int)/\d.length<800:=by
  intro t l d e j;have hl:=congrArg List.length j;simp at hl;refine⟨acF (rest:=l++e) (by simpa using j) Z,V7,V7⟩
 intro x
 induction x with
 |lf t=>
  intro m b c p d e j s w I;obtain⟨c,rfl⟩:∃f,c=f+1:=⟨c - 1,V7⟩
  have⟨A,k,C⟩:=i (l:=[]) j;show gO (cV c) c W (d.length:Int) p=_;unfold gO;rw[dM ⟨V7,k⟩,A]
  try dsimp only
  have ha:=MH m;have hl:=Xx h c (o:=t.1) (a:=t.2) m s (g▸w);rw[Q8,aY (show nA c _ (t.1,t.2) p=some (SL W t.1 t.2 p)from hl),Q9];rfl
 | un t x ih =>
  intro m b c p d e j s w I;obtain⟨c,rfl⟩:∃f,c=f+1:=⟨c - 1,V7⟩
  have⟨A,k,C⟩:=i (l:=x.ts) j;simp only[X.depth]at I;have ha:=Qp m.1;have r:∀(U:V4) (q:Int),x.wf T U->GL U deg q->cV c W ((d.length+1:Nat):Int) q=some (x.den (lfW W) deg q,(((d.length+(x.ts.length+1):Nat)):Int)):=λU q u P=>by
   have:=ih m.2 U c q (d++[t]) e (by rw[j];simp[X.ts]) u P V7;rw[zA0,List.length_singleton]at this;rw[this,show d.length+1+x.ts.length=d.length+(x.ts.length+1) by omega]
  show gO (cV c) c W (d.length:Int) p=_;unfold gO;rw[dM ⟨V7,k⟩,A]
  try dsimp only
  cases J:agg t.1 with
  |false=>
   have ac:t.1<=19:=by simp[agg]at J;omega
   have u:x.wf T b:=by simpa [X.wf,J]using s
   rw[Q0,Q8,Q9,aY (show cV c _ _ p=_ from r b p u w),aY (Ux c _ _)];simp[X.den,X.ts,J]
  | true =>
   have ho:20<=t.1/\t.1<=29:=by simpa [agg]using J
   have u:x.wf T true:=by simpa [X.wf,J]using s
   rw[Q0,Q0,Q8,Q6];let D:Nat->Int:=λq=>x.den (lfW W) deg ((q:Nat):Int);let V:Nat->bN:=λq=>(List.range q).map D++List.replicate (24 - q) 0;have M:∀q,q<=24->(V q).length=24:=λq P=>by simp[V];omega
   have R:∀q,q<24->(V q).set q (D q)=V (q+1):=λq P=>by
    show((List.range q).map D++List.replicate (24 - q) 0).set q (D q)=(List.range (q+1)).map D++List.replicate (24 - (q+1)) 0;rw[show 24 - q=(24 - (q+1))+1 by omega,List.replicate_succ,List.set_append_right _ _ V8,List.range_succ];simp
   let N:Nat->Int:=λq=>if q=0 then 0 else(((d.length+(x.ts.length+1):Nat)):Int)
   have Q:(X.un t x).den (lfW W) deg p=Gu t.1 ((List.range deg).map D):=by simp[X.den,J,D]
   rw[Q,show(X.un t x).ts.length=x.ts.length+1 from rfl];refine Eq.trans (gW (step:=nW c W (d.length:Int) (cV c)) (K:=some (Gu t.1 ((List.range deg).map D),(((d.length+(x.ts.length+1):Nat)):Int))) deg (λq=>(N q,(q:Int),V q)) (λq ag P=>?_) (λag=>?_) c V7) Z
   .unfold nW;dsimp only;have aa:=r true ((q:Nat):Int) u (λ_=>⟨q,rfl,P⟩);rw[if_pos (by rw[S,g];omega),Q9,aY (show cV c _ _ _=_ from aa),dM ⟨V7,M q V7⟩,Q9,zA7];show ag (_,_,(V q).set q (D q))=_;rw[R q V7];simp only[N];rw[Q0]
   .unfold nW;dsimp only;rw[if_neg (by rw[S,g];omega)];have B:List.take deg (V deg)=(List.range deg).map D:=by
     show List.take deg ((List.range deg).map D++_)=_;exact List.take_left' V8
    have L:∀y:Int,y=(((d.length+(x.ts.length+1):Nat)):Int)->nV c W (d.length:Int) (N deg,V deg) y=some (Gu t.1 ((List.range deg).map D),(((d.length+(x.ts.length+1):Nat)):Int)):=by
     rintro y rfl;unfold nV;dsimp only;rw[S,g,dM ⟨V7,V7,by rw[M deg O];omega⟩,A,zA7,B,aY (Xo c t.1 _ V7 Q1)];rfl
    unfold wQ;dsimp only;by_cases h0:deg=0
    .rw[if_pos (by rw[S,g];omega),aY (aic c W.2.2.2 d.length V7 V7),Jt (x:=X.un t x) m j Z];exact L _ Z
    .rw[if_neg (by rw[S,g];omega)];exact L _ (by simp only[N];rw[if_neg h0])
 |bi t x y E F=>
  intro m b c p d e j s w I;obtain⟨c,rfl⟩:∃f,c=f+1:=⟨c - 1,V7⟩
  have⟨A,k,C⟩:=i (l:=x.ts++y.ts) j;simp only[X.depth]at I;have ha:=Tw m.1;show gO (cV c) c W (d.length:Int) p=_;unfold gO;rw[dM ⟨V7,k⟩,A]
  try dsimp only
  have G:=E m.2.1 b c p (d++[t]) (y.ts++e) (by rw[j];simp[X.ts]) s.1 w V7;have H:=F m.2.2 b c p (d++t::x.ts) e (by rw[j];simp[X.ts]) s.2 w V7;rw[zA0,List.length_singleton]at G;rw[zA0,zA3,show d.length+(x.ts.length+1)=d.length+1+x.ts.length by omega]at H;rw[Q0,Q0,Q0,Q8,Q9,aY (show cV c _ _ p=_ from G),aY (show cV c _ _ p=_ from H),aY (Qq c _ _ _)];simp only[X.den,X.ts,zA3,zA0];rw[show d.length+1+x.ts.length+y.ts.length=d.length+(x.ts.length+y.ts.length+1) by omega]
 |tr t x y z E F ab=>
  intro m b c p d e j s w I;obtain⟨c,rfl⟩:∃f,c=f+1:=⟨c - 1,V7⟩
  have⟨A,k,C⟩:=i (l:=x.ts++(y.ts++z.ts)) j;simp only[X.depth]at I;have ha:=afg m.1;show gO (cV c) c W (d.length:Int) p=_;unfold gO;rw[dM ⟨V7,k⟩,A]
  try dsimp only
  have G:=E m.2.1 b c p (d++[t]) (y.ts++z.ts++e) (by rw[j];simp[X.ts]) s.1 w V7;have H:=F m.2.2.1 b c p (d++t::x.ts) (z.ts++e) (by rw[j];simp[X.ts]) s.2.1 w V7;have Y:=ab m.2.2.2 b c p (d++t::(x.ts++y.ts)) e (by rw[j];simp[X.ts]) s.2.2 w V7;rw[zA0,List.length_singleton]at G;rw[zA0,zA3,show d.length+(x.ts.length+1)=d.length+1+x.ts.length by omega]at H;rw[zA0,zA3,zA0,show d.length+(x.ts.length+y.ts.length+1)=d.length+1+x.ts.length+y.ts.length by omega]at Y;rw[Q0,Q0,Q0,Q0,Q9,aY (show cV c _ _ p=_ from G),aY (show cV c _ _ p=_ from H),aY (show cV c _ _ p=_ from Y)];simp only[X.den,X.ts,zA3,zA0];rw[show d.length+1+x.ts.length+y.ts.length+z.ts.length=d.length+(x.ts.length+(y.ts.length+z.ts.length)+1) by omega];split<;>rfl
theorem aez (x:Int):Ez (Wd x):=by unfold Ez Wd;omega
theorem Rk (b:V4):Ez (Yq b):=by cases b<;>(unfold Ez Yq;simp)
theorem aik {o x:Int} (h:Ez x):Ez (unD o x):=by
 unfold unD;split
 .unfold Ez at *;rw[Q7];omega
 .exact Rk _
theorem aga (o x y:Int):Ez (biD o x y):=by
 unfold biD
 repeat' split
 all_goals first|exact aez _|exact Rk _|(unfold Ez;omega)
theorem ahc {i a:Nat} {L:TM->Int->Int} (n:a<=24) (m:∀(t:TM) (b:V4) (p:Int),Fu t.1=some 0->wfL i b t->GL b a p->Ez (L t p)):∀(x:X) (b:V4) (p:Int),x.ok->x.wf i b->GL b a p->Ez (x.den L a p):=by
 intro x
 induction x with
 |lf t=>exact λb p d c e=>m t b p d c e
 | un t x ih =>
  intro b p d c e;cases h:agg t.1 with
  |false=>
   have f:x.wf i b:=by simpa [X.wf,h]using c
   have:=aik (o:=t.1) (ih b p d.2 f e);simpa [X.den,h]using this
  | true =>
   have f:x.wf i true:=by simpa [X.wf,h]using c
   have:=aaL t.1 (l:=(List.range a).map λq=>x.den L a ((q:Nat):Int)) (by simpa using n) (λy s=>by
    obtain⟨q,r,rfl⟩:=zB5.1 s;exact ih true _ d.2 f λ_=>⟨q,rfl,zAg.1 r⟩)
   simpa [X.den,h]using this
 |bi t x y j g=>exact λb p d c e=>aga _ _ _
 |tr t x y z j g k=>
  intro b p d c e;show Ez (if x.den L a p≠0 then _ else _);split
  .exact g b p d.2.2.1 c.2.1 e
  .exact k b p d.2.2.2 c.2.2 e
abbrev MS:=Nat×Int×V6 Int×V6 (Int×bN)
def JZ (a:FW):Int:=match a.getLast? with
 |none=> -1
 |some l=>(l.2.length:Int)
theorem XH (a:FW) (l:Int×bN):JZ (a++[l])=(l.2.length:Int):=by simp[JZ]
structure MOk (T:List TM) (nv deg:Nat) (L:TM->Int->Int) (R:MS->MS->Prop):Prop where
 leaf:∀(pl:Nat) (k:Int) (S:bN) (Ls:FW) (t:TM) (b:Bool),pl<T.length->at' T (pl:Int)=RO t->Fu t.1=some 0->wfL nv b t->GL b deg (JZ Ls)->S.length<=100->Ls.length<=100->∃k',R (pl,k,S,Ls) (pl+1,k',S++[L t (JZ Ls)],Ls)
 un:∀(pl:Nat) (k:Int) (S:bN) (Ls:FW) (o v:Int),pl<T.length->at' T (pl:Int)=(5,o)->18<=o->o<=19->Ez v->S.length<=100->∃k',R (pl,k,S++[v],Ls) (pl+1,k',S++[unD o v],Ls)
 bi:∀(pl:Nat) (k:Int) (S:bN) (Ls:FW) (o v w:Int),pl<T.length->at' T (pl:Int)=(6,o)->30<=o->o<=42->Ez v->Ez w->S.length<=100->∃k',R (pl,k,S++[v,w],Ls) (pl+1,k',S++[biD o v w],Ls)
 el0:∀(pl:Nat) (k:Int) (S:bN) (Ls:FW) (a:Nat),pl<T.length->at' T (pl:Int)=(7,(a:Int))->S.length<=100->∃k',R (pl,k,S++[0],Ls) (a,k',S,Ls)
 el1:∀(pl:Nat) (k:Int) (S:bN) (Ls:FW) (a:Nat) (v:Int),pl<T.length->at' T (pl:Int)=(7,(a:Int))->v≠0->S.length<=100->∃k',R (pl,k,S++[v],Ls) (pl+1,k',S,Ls)
 jp:∀(pl:Nat) (k:Int) (S:bN) (Ls:FW) (a:Nat),pl<T.length->at' T (pl:Int)=(8,(a:Int))->∃k',R (pl,k,S,Ls) (a,k',S,Ls)
 each0:∀(pl:Nat) (k:Int) (S:bN) (Ls:FW) (a:Nat) (o:Int),deg=0->pl<T.length->at' T (pl:Int)=(9,(a:Int))->a<T.length->at' T (a:Int)=(10,o)->20<=o->o<=29->S.length<=100->∃k',R (pl,k,S,Ls) (a+1,k',S++[Gu o []],Ls)
 each1:∀(pl:Nat) (k:Int) (S:bN) (Ls:FW) (a:Int),0<deg->pl<T.length->at' T (pl:Int)=(9,a)->Ls.length<=10->∃k',R (pl,k,S,Ls) (pl+1,k',S,Ls++[((pl:Int),[])])
 next1:∀(pl:Nat) (k:Int) (S:bN) (Ls:FW) (e:Nat) (vs:bN) (v o:Int),pl<T.length->at' T (pl:Int)=(10,o)->vs.length+1<deg->e<=T.length->Ls.length<=10->S.length<=100->20<=o->o<=29->∃k',R (pl,k,S++[v],Ls++[((e:Int),vs)]) (e+1,k',S,Ls++[((e:Int),vs++[v])])
 next0:∀(pl:Nat) (k:Int) (S:bN) (Ls:FW) (e:Nat) (vs:bN) (v o:Int),pl<T.length->at' T (pl:Int)=(10,o)->vs.length+1=deg->20<=o->o<=29->(∀x∈vs++[v],Ez x)->Ls.length<=10->S.length<=100->e<=T.length->∃k',R (pl,k,S++[v],Ls++[((e:Int),vs)]) (pl+1,k',S++[Gu o (vs++[v])],Ls)
def KG {a:Type} (R:a->a->Prop):Nat->a->a->Prop
 |0,s,s'=>s=s'
 |n+1,s,s'=>∃m,R s m/\KG R n m s'
theorem KG.one {σ:Type} {R:σ->σ->Prop} {s a:σ} (h:R s a):KG R 1 s a:=⟨a,h,rfl⟩
theorem KG.trans {e:Type} {R:e->e->Prop}:∀{n m:Nat} {a b c:e},KG R n a b->KG R m b c->KG R (n+m) a c
 |0,m,a,b,c,h,k=>by
  have h:a=b:=h;subst h;rw[zB3];exact k
 |n+1,m,a,b,c,⟨d,h1,h2⟩,k=>by
  rw[show n+1+m=(n+m)+1 by omega];exact⟨d,h1,KG.trans h2 k⟩
def X.bd (a:Nat):X->Nat
 |lf _=>1
 |un t x=>if agg t.1=true then 1+a*(x.bd a+1)else x.bd a+1
 |bi _ x y=>x.bd a+y.bd a+1
 |tr _ x y z=>x.bd a+y.bd a+z.bd a+2
theorem KP {d a b c l:Nat} (h:a+1<=2*l*(d+2)^b) (e:b<=c):a+1<=2*(l*(d+2)^c):=by
 have:=Nat.mul_le_mul_left (2*l) (Nat.pow_le_pow_right (show 0<d+2 by omega) e);rw[<-Nat.mul_assoc];omega
theorem X.bd_le (a:Nat):∀x:X,x.bd a+1<=2*x.ts.length*(a+2)^x.nest
 |lf t=>by simp[X.bd,X.ts,X.nest]
 | un t x =>by
  have h:=x.bd_le a;have f:1<=(a+2)^x.nest:=Nat.one_le_pow _ _ V7;unfold X.bd X.ts X.nest;rw[zA3];split
  .rw[Nat.pow_succ];generalize (a+2)^x.nest=A at *
   generalize x.ts.length=l at *
   generalize x.bd a+1=B at *
   have d:a*B<=a*(2*l*A):=Nat.mul_le_mul_left _ h;have e:A*a≥0:=Nat.zero_le _;simp only[Nat.mul_add,zAt,Nat.mul_assoc,Nat.mul_comm,Nat.mul_left_comm]at d ⊢;omega
  .rw[Nat.add_zero];generalize (a+2)^x.nest=A at *
   simp only[Nat.mul_add,zAt,Nat.mul_assoc]at h ⊢;omega
 |bi t x y=>by
  have h:=KP (x.bd_le a) (Nat.le_max_left x.nest y.nest);have b:=KP (y.bd_le a) (Nat.le_max_right x.nest y.nest);unfold X.bd X.ts X.nest;rw[zA3,zA0];generalize (a+2)^max x.nest y.nest=A at *
  simp only[Nat.mul_add,zAt,Nat.mul_assoc]at h b ⊢;omega
 |tr t x y z=>by
  have h:=KP (x.bd_le a) (Nat.le_max_left x.nest (max y.nest z.nest));have b:=KP (y.bd_le a) (zAz (Nat.le_max_left y.nest z.nest) (Nat.le_max_right x.nest (max y.nest z.nest)));have c:=KP (z.bd_le a) (zAz (Nat.le_max_right y.nest z.nest) (Nat.le_max_right x.nest (max y.nest z.nest)));unfold X.bd X.ts X.nest;rw[zA3,zA0,zA0];generalize (a+2)^max x.nest (max y.nest z.nest)=A at *
  simp only[Nat.mul_add,zAt,Nat.mul_assoc]at h b c ⊢;omega
theorem BI (T a:V6 TM) (i:TM) (l b:V6 TM) (h:T=a++(i::l++b)):a.length<T.length/\at' T (a.length:Int)=i:=by
 constructor
 .rw[h];simp
 .rw[h];exact h_ a (l++b) i _ Z
theorem seg {T:V6 TM} {nv c:Nat} {L:TM->Int->Int} {R:MS->MS->Prop} (H:MOk T nv c L R) (K:∀(x:X) (b:V4) (p:Int),x.ok->x.wf nv b->GL b c p->Ez (x.den L c p)):
  ∀(x:X),x.ok->∀(l:V4) (a d:V6 TM) (k:Int) (S:bN) (f:FW),x.wf nv l->T=a++(x.cd a.length++d)->GL l c (JZ f)->S.length+x.depth<=60->f.length+x.nest<=10->
   ∃N M,N<=x.bd c/\KG R N (a.length,k,S,f) (a.length+x.sz,M,S++[x.den L c (JZ f)],f):=by
 intro x
 induction x with
 |lf t=>
  intro i l a d k S f v e u hS hL;have⟨o,r⟩:=BI T a _ [] d e;have⟨M,h⟩:=H.leaf a.length k S f t l o r i v u V7 V7;exact⟨1,M,zAf _,KG.one h⟩
 | un t x ih =>
  intro i l a d k S f v e u hS hL;simp only[X.depth]at hS;simp only[X.nest]at hL;cases w:agg t.1 with
  | false =>
   have m:(X.un t x).cd a.length=x.cd a.length++[(5,t.1)]:=by simp[X.cd,w]
   rw[m]at e;have E:x.wf nv l:=by simpa [X.wf,w]using v
   have⟨N,O,hN,hr⟩:=ih i.2 l a ([(5,t.1)]++d) k S f E (by rw[e];simp) u V7 V7;have⟨o,r⟩:=BI T (a++x.cd a.length) (5,t.1) [] d (by rw[e];simp);have W:(a++x.cd a.length).length=a.length+x.sz:=by rw[zA0,x.cd_len]
   rw[W]at o r;have ha:=Qp i.1;have aq:t.1<=19:=by
    simp[agg]at w;omega
   have⟨F,J⟩:=H.un (a.length+x.sz) O S f t.1 _ o r ha.1 aq (K x l _ i.2 E u) V7;refine⟨N+1,F,by simp[X.bd,w];omega,?_⟩
   have:=hr.trans (KG.one J);simpa [X.sz,X.den,w,Nat.add_assoc]using this
  | true =>
   have ha:=Qp i.1;have ho:20<=t.1/\t.1<=29:=by simpa [agg]using w
   have m:(X.un t x).cd a.length=(9,((a.length+1+x.sz:Nat):Int))::(x.cd (a.length+1)++[(10,t.1)]):=by simp[X.cd,w]
   rw[m]at e;have E:x.wf nv true:=by simpa [X.wf,w]using v
   have⟨o,r⟩:=BI T a _ _ d e;have⟨J,h4⟩:=BI T (a++(9,((a.length+1+x.sz:Nat):Int))::x.cd (a.length+1)) (10,t.1) [] d (by rw[e];simp);have W:(a++(9,((a.length+1+x.sz:Nat):Int))::x.cd (a.length+1)).length=a.length+1+x.sz:=by rw[zA0,zA3,x.cd_len];omega
   rw[W]at J h4;have au:(X.un t x).sz=x.sz+2:=by simp[X.sz,w]
   have C:(X.un t x).den L c (JZ f)=Gu t.1 ((List.range c).map λq=>x.den L c ((q:Nat):Int)):=by simp[X.den,w]
   have ar:(X.un t x).bd c=1+c*(x.bd c+1):=by simp[X.bd,w]
   rw[au,C,ar];by_cases Y:c=0
   .have⟨M,h5⟩:=H.each0 a.length k S f (a.length+1+x.sz) t.1 Y o r J h4 ho.1 ho.2 V7;refine⟨1,M,V7,?_⟩
    have:=KG.one h5;rw[Y];simpa [show a.length+1+x.sz+1=a.length+(x.sz+2) by omega]using this
   .have aw:x.nest+1+f.length<=10:=by simp[w]at hL;omega
    have⟨O,h5⟩:=H.each1 a.length k S f _ V7 o r V7;let D:Nat->bN:=λq=>(List.range q).map λq=>x.den L c ((q:Nat):Int);have aa:∀q,(D q).length=q:=λq=>by simp[D]
    have ab:∀q,D (q+1)=D q++[x.den L c ((q:Nat):Int)]:=λq=>by simp[D,List.range_succ]
    -- the s
    have V:∀q,q<c->∀k,∃N M,N<=x.bd c/\KG R N (a.length+1,k,S,f++[((a.length:Int),D q)]) (a.length+1+x.sz,M,S++[x.den L c ((q:Nat):Int)],f++[((a.length:Int),D q)]):=λq hq k=>by
     have ao:JZ (f++[((a.length:Int),D q)])=((q:Nat):Int):=by rw[XH,aa]
     have:=ih i.2 true (a++[(9,((a.length+1+x.sz:Nat):Int))]) ([(10,t.1)]++d) k S (f++[((a.length:Int),D q)]) E (by rw[e];simp) (λ_=>⟨q,ao,hq⟩) V7 Q1;rw[ao]at this;simpa using this
    have s:∀j,j<c->∃N M,N<=j*(x.bd c+1)/\KG R N (a.length+1,O,S,f++[((a.length:Int),D 0)]) (a.length+1,M,S,f++[((a.length:Int),D j)]):=λj=>by
     induction j with
     |zero=>exact λ_=>⟨0,O,V7,rfl⟩
     |succ j av=>
      intro hj;have⟨U,F,ac,I⟩:=av V7;have⟨N2,P,ah,G⟩:=V j V7 F;have⟨k4,B⟩:=H.next1 (a.length+1+x.sz) P S f a.length (D j) (x.den L c ((j:Nat):Int)) t.1 J h4 (by rw[aa];omega) V7 V7 V7 ho.1 ho.2;refine⟨U+N2+1,k4,by rw[zAt];omega,?_⟩
      rw[ab];exact(I.trans G).trans (KG.one B)
    have⟨U,F,ac,I⟩:=s (c - 1) V7;have⟨N2,P,ah,G⟩:=V (c - 1) V7 F;have ai:∀y∈D (c - 1)++[x.den L c (((c - 1:Nat)):Int)],Ez y:=λy hy=>by
     rw[<-ab]at hy;simp only[D,zB5,zAg]at hy;obtain⟨q,hq,rfl⟩:=hy;exact K x true _ i.2 E λ_=>⟨q,rfl,V7⟩
    have⟨k4,B⟩:=H.next0 (a.length+1+x.sz) P S f a.length (D (c - 1)) (x.den L c (((c - 1:Nat)):Int)) t.1 J h4 (by rw[aa];omega) ho.1 ho.2 ai V7 V7 V7;have aj:D (c - 1)++[x.den L c (((c - 1:Nat)):Int)]=(List.range c).map λq=>x.den L c ((q:Nat):Int):=by
     rw[<-ab,show c - 1+1=c by omega]
    rw[aj]at B;refine⟨1+(U+N2+1),k4,?_,?_⟩
    .have:c*(x.bd c+1)=(c - 1)*(x.bd c+1)+(x.bd c+1):=by
      rw[<-Nat.succ_mul];congr 1;omega
     omega
    .rw[show a.length+(x.sz+2)=a.length+1+x.sz+1 by omega];exact(KG.one h5).trans ((I.trans G).trans (KG.one B))
 |bi t x y af ag=>
  intro i l a d k S f v e u hS hL;simp only[X.depth]at hS;simp only[X.nest]at hL;have m:(X.bi t x y).cd a.length=x.cd a.length++(y.cd (a.length+x.sz)++[(6,t.1)]):=rfl;rw[m]at e;have W:(a++x.cd a.length).length=a.length+x.sz:=by rw[zA0,x.cd_len]
  have⟨U,O,ac,I⟩:=af i.2.1 l a (y.cd (a.length+x.sz)++[(6,t.1)]++d) k S f v.1 (by rw[e];simp) u V7 V7;have⟨N2,F,ah,G⟩:=ag i.2.2 l (a++x.cd a.length) ([(6,t.1)]++d) O (S++[x.den L c (JZ f)]) f v.2 (by rw[e,W];simp) u Q1 V7;rw[W]at G;have⟨o,r⟩:=BI T (a++(x.cd a.length++y.cd (a.length+x.sz))) (6,t.1) [] d (by rw[e];simp);have ad:(a++(x.cd a.length++y.cd (a.length+x.sz))).length=a.length+x.sz+y.sz:=by rw[zA0,zA0,x.cd_len,y.cd_len];omega
  rw[ad]at o r;have ha:=Tw i.1;have⟨P,B⟩:=H.bi (a.length+x.sz+y.sz) F S f t.1 _ _ o r ha.1 ha.2 (K x l _ i.2.1 v.1 u) (K y l _ i.2.2 v.2 u) V7;rw[zAr]at G;refine⟨U+N2+1,P,by simp[X.bd];omega,?_⟩
  have:=(I.trans G).trans (KG.one B);rw[show a.length+(X.bi t x y).sz=a.length+x.sz+y.sz+1 by simp[X.sz];omega];exact this
 | tr t x y z af ag ihz =>
  intro i l a d k S f v e u hS hL;simp only[X.depth]at hS;simp only[X.nest]at hL;obtain⟨A,ae⟩:∃n,n=a.length+x.sz:=⟨_,rfl⟩
  obtain⟨g,am⟩:∃n,n=A+1+y.sz:=⟨_,rfl⟩
  obtain⟨Q,an⟩:∃n,n=g+1+z.sz:=⟨_,rfl⟩
  have m:(X.tr t x y z).cd a.length=x.cd a.length++((7,((g+1:Nat):Int))::(y.cd (A+1)++((8,((Q:Nat):Int))::z.cd (g+1)))):=by
   subst ae am an;rfl
  rw[m]at e;have W:(a++x.cd a.length).length=A:=by rw[zA0,x.cd_len,ae]
  have ad:(a++(x.cd a.length++((7,((g+1:Nat):Int))::y.cd (A+1)))).length=g:=by rw[zA0,zA0,zA3,x.cd_len,y.cd_len];omega
  have ak:(a++(x.cd a.length++((7,((g+1:Nat):Int))::(y.cd (A+1)++[(8,((Q:Nat):Int))])))).length=g+1:=by simp[X.cd_len];omega
  have al:(a++(x.cd a.length++[(7,((g+1:Nat):Int))])).length=A+1:=by simp[X.cd_len];omega
  have⟨U,O,ac,I⟩:=af i.2.1 l a ((7,((g+1:Nat):Int))::(y.cd (A+1)++((8,((Q:Nat):Int))::z.cd (g+1)))++d) k S f v.1 (by rw[e];simp) u V7 V7;rw[<-ae]at I;have⟨o,r⟩:=BI T (a++x.cd a.length) (7,((g+1:Nat):Int)) (y.cd (A+1)++((8,((Q:Nat):Int))::z.cd (g+1))) d (by rw[e];simp);rw[W]at o r;rw[show a.length+(X.tr t x y z).sz=Q by simp[X.sz];omega];have C:(X.tr t x y z).den L c (JZ f)=if x.den L c (JZ f)≠0 then y.den L c (JZ f)else z.den L c (JZ f):=rfl;rw[C];by_cases Y:x.den L c (JZ f)=0
  .rw[if_neg (by simpa using Y)];rw[Y]at I;have⟨F,G⟩:=H.el0 A O S f (g+1) o r V7;have⟨N3,P,ap,B⟩:=ihz i.2.2.2 l (a++(x.cd a.length++((7,((g+1:Nat):Int))::(y.cd (A+1)++[(8,((Q:Nat):Int))])))) d F S f v.2.2 (by
    rw[e,ak];simp) u V7 V7
   rw[ak,<-an]at B;refine⟨U+1+N3,P,by simp[X.bd];omega,?_⟩
   exact(I.trans (KG.one G)).trans B
  .rw[if_pos Y];have⟨F,G⟩:=H.el1 A O S f (g+1) _ o r Y V7;have⟨N3,P,ap,B⟩:=ag i.2.2.1 l (a++(x.cd a.length++[(7,((g+1:Nat):Int))])) ((8,((Q:Nat):Int))::z.cd (g+1)++d) F S f v.2.1 (by
    rw[e,al];simp) u V7 V7
   rw[al,<-am]at B;have⟨J,h4⟩:=BI T (a++(x.cd a.length++((7,((g+1:Nat):Int))::y.cd (A+1)))) (8,((Q:Nat):Int)) (z.cd (g+1)) d (by rw[e];simp);rw[ad]at J h4;have⟨k4,r4⟩:=H.jp g P (S++[y.den L c (JZ f)]) f Q J h4;refine⟨U+1+(N3+1),k4,by simp[X.bd];omega,?_⟩
   exact(I.trans (KG.one G)).trans (B.trans (KG.one r4))
end Go.Proofs.YtemmagadjnlajaaGreatDoor
namespace Go.Proofs.YtemmagadjnlajaaGreatDoor
open Go.Sx
def Dv (U:Nat) (a:Int):V1 (((Int×Int)×(Int×Int)×(Int×Int)×(Int×Int)×(Int×Int)×(Int×Int)×(Int×Int)×(Int×Int)×(Int×Int)×(Int×Int)×(Int×Int))):=
 some (((((0:Int),(-1:Int))),(((-1073741824:Int),(1073741824:Int))),(((0:Int),(wI .i64 ((max a (0:Int)) - (1:Int))))),(((0:Int),(wI .i64 ((max a (0:Int)) - (1:Int))))),(((6:Int),(17:Int))),(((18:Int),(19:Int))),(((30:Int),(42:Int))),(((0:Int),(1024:Int))),(((0:Int),(1024:Int))),(((0:Int),(1024:Int))),(((20:Int),(29:Int)))))
theorem LZ:aX prog 60:=call60
theorem wN {p0:Int} (r:((Int×Int)×(Int×Int)×(Int×Int)×(Int×Int)×(Int×Int)×(Int×Int)×(Int×Int)×(Int×Int)×(Int×Int)×(Int×Int)×(Int×Int))) (h:Dv U p0=some r):
  aZ prog 60 #[vI (p0)] [] (λx:Unit=>Value.agg #[vI (r.1.1),vI (r.1.2),vI (r.2.1.1),vI (r.2.1.2),vI (r.2.2.1.1),vI (r.2.2.1.2),vI (r.2.2.2.1.1),vI (r.2.2.2.1.2),vI (r.2.2.2.2.1.1),vI (r.2.2.2.2.1.2),vI (r.2.2.2.2.2.1.1),vI (r.2.2.2.2.2.1.2),vI (r.2.2.2.2.2.2.1.1),vI (r.2.2.2.2.2.2.1.2),vI (r.2.2.2.2.2.2.2.1.1),vI (r.2.2.2.2.2.2.2.1.2),vI (r.2.2.2.2.2.2.2.2.1.1),vI (r.2.2.2.2.2.2.2.2.1.2),vI (r.2.2.2.2.2.2.2.2.2.1.1),vI (r.2.2.2.2.2.2.2.2.2.1.2),vI (r.2.2.2.2.2.2.2.2.2.2.1),vI (r.2.2.2.2.2.2.2.2.2.2.2)]) (λx l=>l) (λ_ l=>l):=by
 refine aZ.of func60 Z ntmps60 Z λc=>?_;unfold Dv at h;refine aT<|aK (aO.alloc (cs:=[vI (0:Int),vI (0:Int),vI (0:Int),vI (0:Int),vI (0:Int),vI (0:Int),vI (0:Int),vI (0:Int),vI (0:Int),vI (0:Int),vI (0:Int),vI (0:Int),vI (0:Int),vI (0:Int),vI (0:Int),vI (0:Int),vI (0:Int),vI (0:Int),vI (0:Int),vI (0:Int),vI (0:Int),vI (0:Int)]) Z Z) Z λa=>aM<|Q3 Z<|Q5 Z<|aC (Gm Z Z) Z<|Q4 Z<|aT<|aC (nP (r:=Value.agg #[vI (0:Int),vI (-1:Int)]) Z Z (by intro w;simp[Instr.build,Instr.fill,cL,b_,bW,cM,cN,cA,dD])) Z ?_;refine aC (nP (r:=Value.agg #[vI (-1073741824:Int),vI (1073741824:Int)]) Z Z (by intro w;simp[Instr.build,Instr.fill,cL,b_,bW,cM,cN,cA,dD])) Z ?_;refine aA Z<|aC (kT Z Z) Z<|aC (nP (r:=Value.agg #[vI (0:Int),vI (wI .i64 ((max p0 (0:Int)) - (1:Int)))]) Z Z (by intro w;simp[Instr.build,Instr.fill,cL,b_,bW,cM,cN,cA,dD])) Z ?_;refine aA Z<|aC (kT Z Z) Z<|aC (nP (r:=Value.agg #[vI (0:Int),vI (wI .i64 ((max p0 (0:Int)) - (1:Int)))]) Z Z (by intro w;simp[Instr.build,Instr.fill,cL,b_,bW,cM,cN,cA,dD])) Z ?_;refine aC (nP (r:=Value.agg #[vI (6:Int),vI (17:Int)]) Z Z (by intro w;simp[Instr.build,Instr.fill,cL,b_,bW,cM,cN,cA,dD])) Z ?_;refine aC (nP (r:=Value.agg #[vI (18:Int),vI (19:Int)]) Z Z (by intro w;simp[Instr.build,Instr.fill,cL,b_,bW,cM,cN,cA,dD])) Z ?_;refine aC (nP (r:=Value.agg #[vI (30:Int),vI (42:Int)]) Z Z (by intro w;simp[Instr.build,Instr.fill,cL,b_,bW,cM,cN,cA,dD])) Z ?_;refine aA Z<|aC (nP (r:=Value.agg #[vI (0:Int),vI (1024:Int)]) Z Z (by intro w;simp[Instr.build,Instr.fill,cL,b_,bW,cM,cN,cA,dD])) Z ?_;refine aA Z<|aC (nP (r:=Value.agg #[vI (0:Int),vI (1024:Int)]) Z Z (by intro w;simp[Instr.build,Instr.fill,cL,b_,bW,cM,cN,cA,dD])) Z ?_;refine aA Z<|aC (nP (r:=Value.agg #[vI (0:Int),vI (1024:Int)]) Z Z (by intro w;simp[Instr.build,Instr.fill,cL,b_,bW,cM,cN,cA,dD])) Z ?_;refine aC (nP (r:=Value.agg #[vI (20:Int),vI (29:Int)]) Z Z (by intro w;simp[Instr.build,Instr.fill,cL,b_,bW,cM,cN,cA,dD])) Z ?_;refine aC (Y.bld11 (r:=Value.agg #[vI (0:Int),vI (-1:Int),vI (-1073741824:Int),vI (1073741824:Int),vI (0:Int),vI (wI .i64 ((max p0 (0:Int)) - (1:Int))),vI (0:Int),vI (wI .i64 ((max p0 (0:Int)) - (1:Int))),vI (6:Int),vI (17:Int),vI (18:Int),vI (19:Int),vI (30:Int),vI (42:Int),vI (0:Int),vI (1024:Int),vI (0:Int),vI (1024:Int),vI (0:Int),vI (1024:Int),vI (20:Int),vI (29:Int)]) Z Z Z Z Z Z Z Z Z Z Z (by intro w;simp[Instr.build,Instr.fill,cL,b_,bW,cM,cN,cA,dD])) Z ?_;refine cO 0 (vs:=[vI (0:Int),vI (-1:Int),vI (-1073741824:Int),vI (1073741824:Int),vI (0:Int),vI (wI .i64 ((max p0 (0:Int)) - (1:Int))),vI (0:Int),vI (wI .i64 ((max p0 (0:Int)) - (1:Int))),vI (6:Int),vI (17:Int),vI (18:Int),vI (19:Int),vI (30:Int),vI (42:Int),vI (0:Int),vI (1024:Int),vI (0:Int),vI (1024:Int),vI (0:Int),vI (1024:Int),vI (20:Int),vI (29:Int)]) Z Z Z Z Z Z<|aM<|aP ?_;cases h;exact mS () Z Z (RV.cell 0 Z Z Z Z) .nil aE.nil
def g_ (a:V4):V1 V4:=
 some (a)
def jU (U:Nat) (b:EJ) (a:dJ):V1 V4:=
 if a.1=(3:Int)then(g_ (true))else(if a.1=(4:Int)then(g_ (decide ((11:Int)<=a.2)))else(g_ (false)))
theorem acS:aX prog 115:=call115
theorem EG {p0:EJ} {a:dJ} (d:Nat) (f g i:V0) (r:V4) (h:jU U p0 a=some r):
  aZ prog 115 #[vP d,Value.agg #[vI (a.1),vI (a.2)]] [bU d [f,vI (p0.2.1.1.1),vI (p0.2.1.1.2),vI (p0.2.1.2.1.1),vI (p0.2.1.2.1.2),vI (p0.2.1.2.2.1.1),vI (p0.2.1.2.2.1.2),vI (p0.2.1.2.2.2.1.1),vI (p0.2.1.2.2.2.1.2),vI (p0.2.1.2.2.2.2.1.1),vI (p0.2.1.2.2.2.2.1.2),vI (p0.2.1.2.2.2.2.2.1.1),vI (p0.2.1.2.2.2.2.2.1.2),vI (p0.2.1.2.2.2.2.2.2.1.1),vI (p0.2.1.2.2.2.2.2.2.1.2),vI (p0.2.1.2.2.2.2.2.2.2.1.1),vI (p0.2.1.2.2.2.2.2.2.2.1.2),vI (p0.2.1.2.2.2.2.2.2.2.2.1.1),vI (p0.2.1.2.2.2.2.2.2.2.2.1.2),vI (p0.2.1.2.2.2.2.2.2.2.2.2.1.1),vI (p0.2.1.2.2.2.2.2.2.2.2.2.1.2),vI (p0.2.1.2.2.2.2.2.2.2.2.2.2.1),vI (p0.2.1.2.2.2.2.2.2.2.2.2.2.2),g,i,vI (p0.2.2.2.2)] 139,Sl aS f p0.1,Sl cQ g p0.2.2.1,Sl nG i p0.2.2.2.1] (λx:Unit=>vB (r)) (λx l=>l) (λ_ l=>l):=by
 refine aZ.of func115 Z ntmps115 Z λc=>aT<|aK (aO.box (cs:=[vI (a.1),vI (a.2)]) Z Z) Z λj=>Q4 Z<|aI<|cC (λb=>g_ b=some r) (λb e=>[(4,vB (b))]) (λb e=>[]) ?_ ?_
 .refine aL<|bD Z<|bY 0 Z<|bP Z<|aA Z<|mL h Z (λ_ h=>?_) λ_ h=>?_
  .refine aD Z<|aD Z<|aD Z<|aD Z<|Bg (h:= ?_);refine Bg (h:= ?_);refine Bg (h:= ?_);exact aD Z<|bO Z<|Q4 Z<|bQ (true) () h SF .nil (aE.refl _ _)
  refine aF Z (bR Z Z Z Z Z) Z<|aF Z (bX 0 Z Z Z Z Z) Z<|aF Z (oV Z Z) Z<|bH Z<|mL h Z (λ_ h=>?_) λ_ h=>?_
  .exact aF Z (bR Z Z Z Z Z) Z<|aF Z (bX 0 Z Z Z Z Z) Z<|aF Z (lD Z Z) Z<|aF Z (wR Z Z) Z<|bT Z<|Q4 Z<|bQ (decide ((11:Int)<=a.2)) () h SF .nil (aE.refl _ _)
  exact aD Z<|aD Z<|aD Z<|aF Z (sG Z Z) Z<|bT Z<|Q4 Z<|bQ (false) () h SF .nil (aE.refl _ _)
 intro b e h;unfold g_ at h;refine aP ?_;cases h;exact gM Z
def dH (U:Nat) (a:EJ):V1 ((Int×Int×Int)):=
 if(a.2.2.2.1.length:Int)=(0:Int)then(some (((-1:Int),(a.1.length:Int),(0:Int))))else(ck (0<=(wI .i64 ((a.2.2.2.1.length:Int) - (1:Int)))/\(wI .i64 ((a.2.2.2.1.length:Int) - (1:Int)))<(a.2.2.2.1.length:Int)) (some ((((at' a.2.2.2.1 (wI .i64 ((a.2.2.2.1.length:Int) - (1:Int)))).1),((at' a.2.2.2.1 (wI .i64 ((a.2.2.2.1.length:Int) - (1:Int)))).2.1),((at' a.2.2.2.1 (wI .i64 ((a.2.2.2.1.length:Int) - (1:Int)))).2.2)))))
theorem NB:aX prog 156:=call156
theorem l_ (U:Nat) {a:EJ} (d:Nat) (f g i:V0) (r:kZ) (h:dH U a=some r):
  aZ prog 156 #[vP d] [bU d [f,vI (a.2.1.1.1),vI (a.2.1.1.2),vI (a.2.1.2.1.1),vI (a.2.1.2.1.2),vI (a.2.1.2.2.1.1),vI (a.2.1.2.2.1.2),vI (a.2.1.2.2.2.1.1),vI (a.2.1.2.2.2.1.2),vI (a.2.1.2.2.2.2.1.1),vI (a.2.1.2.2.2.2.1.2),vI (a.2.1.2.2.2.2.2.1.1),vI (a.2.1.2.2.2.2.2.1.2),vI (a.2.1.2.2.2.2.2.2.1.1),vI (a.2.1.2.2.2.2.2.2.1.2),vI (a.2.1.2.2.2.2.2.2.2.1.1),vI (a.2.1.2.2.2.2.2.2.2.1.2),vI (a.2.1.2.2.2.2.2.2.2.2.1.1),vI (a.2.1.2.2.2.2.2.2.2.2.1.2),vI (a.2.1.2.2.2.2.2.2.2.2.2.1.1),vI (a.2.1.2.2.2.2.2.2.2.2.2.1.2),vI (a.2.1.2.2.2.2.2.2.2.2.2.2.1),vI (a.2.1.2.2.2.2.2.2.2.2.2.2.2),g,i,vI (a.2.2.2.2)] 139,Sl aS f a.1,Sl cQ g a.2.2.1,Sl nG i a.2.2.2.1] (λx:Unit=>Value.agg #[vI (r.1),vI (r.2.1),vI (r.2.2)]) (λx l=>l) (λ_ l=>l):=by
 let b:=(at' a.2.2.2.1 (wI .i64 ((a.2.2.2.1.length:Int) - (1:Int))))
 refine aZ.of func156 Z ntmps156 Z λc=>?_;refine aT<|aK (aO.alloc (cs:=[vI (0:Int),vI (0:Int),vI (0:Int)]) Z Z) Z λj=>aM<|aI<|aT<|aA Z<|aC (aV Z) Z<|bD Z<|aC (eN Z (cG Z) Z Z Z) Z<|eL (EQ Z) Z<|bP Z<|aM ?_;refine eF h Z (λh=>?_) λh=>?_
 .refine aT<|aA Z<|aC (aV Z) Z<|bD Z<|aC (eN Z (cG Z) Z Z Z) Z<|eL (iZ Z) Z ?_;refine aC (nP (r:=Value.agg #[vI (-1:Int),vI (a.1.length:Int),vI (0:Int)]) Z Z (by intro w;simp[Instr.build,Instr.fill,cL,b_,bW,cM,cN,cA,dD])) Z ?_;refine cO 0 (vs:=[vI (-1:Int),vI (a.1.length:Int),vI (0:Int)]) Z Z Z Z Z Z<|aM<|aP<|aG ?_;cases h;exact mS () Z Z (RV.cell 0 Z Z Z Z) .nil aE.nil
 refine bK<|aI ?_;refine xP [0,1,3,7,0,16,48,112,240,496,1023,2047,4095] 10 mixedOrders ?_;refine bE Z<|iD Z (aV Z)<|dA Z<|bI Z .nil (jP 0 Z) (eN Z (cG Z) Z Z Z) aR.z<|bE Z<|iD Z (aV Z)<|dA Z<|bI Z .nil (jP 0 Z) (eN Z (cG Z) Z Z Z) aR.z<|bI Z .nil (jP 3 Z) (dO Z (cG Z) Z) aR.z<|iD Z (kT Z Z)<|bS 10 Z Z<|eX h λe h=>aC (a_ Z Z (EQ Z) Z Z e) Z<|aC (eO (cs:=[vI (b.1),vI (b.2.1),vI (b.2.2)]) Z (EQ Z) iX Z Z Z Z e) Z<|cO 0 (vs:=[vI ((at' a.2.2.2.1 (wI .i64 ((a.2.2.2.1.length:Int) - (1:Int)))).1),vI ((at' a.2.2.2.1 (wI .i64 ((a.2.2.2.1.length:Int) - (1:Int)))).2.1),vI ((at' a.2.2.2.1 (wI .i64 ((a.2.2.2.1.length:Int) - (1:Int)))).2.2)]) Z Z Z Z Z Z<|aM<|aP ?_;cases h;exact mS () Z Z (RV.cell 0 Z Z Z Z) .nil aE.nil
def iU (a:V4):V1 V4:=
 some (a)
def iS (a:EJ) (d:dJ) (c:V4):V1 V4:=
 if c=true then(some (false))else(if(a.2.2.2.1.length:Int)<(2:Int)then(Option.bind (dH U ((a.1,((((a.2.1.1.1,a.2.1.1.2)),((a.2.1.2.1.1,a.2.1.2.1.2)),((a.2.1.2.2.1.1,a.2.1.2.2.1.2)),((a.2.1.2.2.2.1.1,a.2.1.2.2.2.1.2)),((a.2.1.2.2.2.2.1.1,a.2.1.2.2.2.2.1.2)),((a.2.1.2.2.2.2.2.1.1,a.2.1.2.2.2.2.2.1.2)),((a.2.1.2.2.2.2.2.2.1.1,a.2.1.2.2.2.2.2.2.1.2)),((a.2.1.2.2.2.2.2.2.2.1.1,a.2.1.2.2.2.2.2.2.2.1.2)),((a.2.1.2.2.2.2.2.2.2.2.1.1,a.2.1.2.2.2.2.2.2.2.2.1.2)),((a.2.1.2.2.2.2.2.2.2.2.2.1.1,a.2.1.2.2.2.2.2.2.2.2.2.1.2)),((a.2.1.2.2.2.2.2.2.2.2.2.2.1,a.2.1.2.2.2.2.2.2.2.2.2.2.2)))),a.2.2.1,a.2.2.2.1,a.2.2.2.2))) λb=>(iU (decide (d.2<b.2.1))))else(iU (false)))
def eR (b:EJ) (c:Int) (a:dJ):V1 V4:=
 if a.1≠(9:Int)then(some (true))else(if a.2<=c then(iS U b a (true))else(if(b.1.length:Int)<=a.2 then(iS U b a (true))else(ck (0<=a.2/\a.2<(b.1.length:Int)) (iS U b a (decide (((at' b.1 a.2).1)≠(10:Int)))))))
theorem acT:aX prog 116:=call116
theorem Di (U:Nat) {p0:EJ} {v:Int} {e:dJ} (f:Nat) (m n o:V0) (r:Bool) (h:eR U p0 v e=some r):
  aZ prog 116 #[vP f,vI (v),Value.agg #[vI (e.1),vI (e.2)]] [bU f [m,vI (p0.2.1.1.1),vI (p0.2.1.1.2),vI (p0.2.1.2.1.1),vI (p0.2.1.2.1.2),vI (p0.2.1.2.2.1.1),vI (p0.2.1.2.2.1.2),vI (p0.2.1.2.2.2.1.1),vI (p0.2.1.2.2.2.1.2),vI (p0.2.1.2.2.2.2.1.1),vI (p0.2.1.2.2.2.2.1.2),vI (p0.2.1.2.2.2.2.2.1.1),vI (p0.2.1.2.2.2.2.2.1.2),vI (p0.2.1.2.2.2.2.2.2.1.1),vI (p0.2.1.2.2.2.2.2.2.1.2),vI (p0.2.1.2.2.2.2.2.2.2.1.1),vI (p0.2.1.2.2.2.2.2.2.2.1.2),vI (p0.2.1.2.2.2.2.2.2.2.2.1.1),vI (p0.2.1.2.2.2.2.2.2.2.2.1.2),vI (p0.2.1.2.2.2.2.2.2.2.2.2.1.1),vI (p0.2.1.2.2.2.2.2.2.2.2.2.1.2),vI (p0.2.1.2.2.2.2.2.2.2.2.2.2.1),vI (p0.2.1.2.2.2.2.2.2.2.2.2.2.2),n,o,vI (p0.2.2.2.2)] 139,Sl aS m p0.1,Sl cQ n p0.2.2.1,Sl nG o p0.2.2.2.1] (λx:Unit=>vB (r)) (λx l=>l) (λ_ l=>l):=by
 refine aZ.of func116 Z ntmps116 Z λc=>?_;refine aT<|aK (aO.box (cs:=[vI (e.1),vI (e.2)]) Z Z) Z λs=>aB Z<|aM<|aI<|aT<|bD Z<|bY 0 Z<|lK Z<|aM ?_;refine eF h Z (λh=>?_) λh=>?_
 .refine aT<|aB Z<|aM<|aP<|aG ?_;cases h;exact mK Z
 refine bK<|aI<|aI<|cC (λg=>iS U p0 e g=some r) (λg t=>[(0,vP f),(5,vP s),(35,vB (g))]) (λg t=>[bU s [vI (e.1),vI (e.2)] 85]) ?_ ?_
 .refine xP [0,1,0,7,15,31,63,31,159,415,927,1951,4095,8191,16383,32767,65535,131071,262143,32767,557055,2097151,4194303,8388607,16777215,33554431] 21 mixedOrders ?_;refine dA Z<|iH 0 Z<|bE Z<|iD Z (nH Z Z)<|bE Z ?_;refine wE (by exact rfl) (by exact rfl) (by exact rfl) (λb=>?_) (λb=>?_)
  .have h:=Bt b h;refine bA Z Z Z Z<|bA Z Z Z Z<|bA Z Z Z Z<|bA Z Z Z Z<|bA Z Z Z Z<|bA Z Z Z Z<|bA Z Z Z Z<|bA Z Z Z Z<|iD Z (wR Z Z)<|bE Z<|bA Z Z Z Z<|bA Z Z Z Z<|bA Z Z Z Z<|bA Z Z Z Z<|bA Z Z Z Z<|bA Z Z Z Z<|bS 21 Z Z<|aD Z<|aD Z<|aD Z<|aD Z<|bO Z<|aM ?_;exact cF (true) () h SF Z
  have h:=MP b h;refine dX Z .nil .nil (bR Z Z Z Z Z) aR.z<|dX Z (aW.cons 0 Z .nil) .nil (bX 0 Z Z Z Z Z) aR.z<|dX Z .nil .nil (fN Z) aR.z<|dX Z .nil .nil (aV Z) aR.z<|dX Z .nil .nil (bR Z Z Z Z Z) aR.z<|dX Z .nil (jP 0 Z) (eN Z (cG Z) Z Z Z) aR.z<|dX Z .nil (jP 1 Z) (dO Z (cG Z) Z) aR.z<|dX Z .nil .nil (lD Z Z) aR.z<|iD Z (sG Z Z)<|bE Z ?_;refine wE (by exact rfl) (by exact rfl) (by exact rfl) (λd=>?_) (λd=>?_)
  .have h:=Bt d h;refine bA Z Z Z Z<|bA Z Z Z Z<|bA Z Z Z Z<|bA Z Z Z Z<|bA Z Z Z Z<|bA Z Z Z Z<|bS 21 Z Z<|aD Z<|aD Z<|aD Z<|aD Z<|bO Z<|aM ?_;exact cF (true) () h SF Z
  have h:=MP d h;refine dX Z .nil .nil (fN Z) aR.z<|dX Z .nil .nil (aV Z) aR.z<|dX Z .nil .nil (bR Z Z Z Z Z) aR.z<|dX Z .nil (jP 0 Z) (eN Z (cG Z) Z Z Z) aR.z<|dX Z .nil .nil (bR Z Z Z Z Z) aR.z<|dX Z (aW.cons 0 Z .nil) .nil (bX 0 Z Z Z Z Z) aR.z<|bS 21 Z Z<|eX h λj h=>aF Z (a_ Z Z (iZ Z) Z Z j) Z<|aF Z (cB Z Z Z Z Z) Z<|aF Z (fW Z (iZ Z) Z Z Z kS j) Z<|aF Z (xH Z Z) Z<|bT Z<|aM ?_;exact cF (decide (((at' p0.1 e.2).1)≠(10:Int))) () h SF Z
 intro g t h;refine iA h Z (λ_ h=>?_) λ_ h=>?_
 .refine aT<|aB Z<|aM<|aP<|aG ?_;cases h;exact mK Z
 refine bK<|aI<|cC (λi=>iU i=some r) (λi u=>[(6,vB (i))]) (λi u=>[]) ?_ ?_
 .refine xP [0,1,3,7,15,31,63,127,255,511,127,1151,4095,8191,16383] 12 mixedOrders ?_;refine bE Z<|iD Z (aV Z)<|dA Z<|bI Z .nil (jP 0 Z) (eN Z (cG Z) Z Z Z) aR.z<|bI Z .nil (jP 3 Z) (dO Z (cG Z) Z) aR.z<|iD Z (Hg Z Z)<|bE Z ?_;refine wE (by exact rfl) (by exact rfl) (by exact rfl) (λa=>?_) (λa=>?_)
  .have h:=Bt a h;refine dX Z .nil .nil (fN Z) aR.z<|dG h λk p h=>Fo Z Z Z Z (zB8 NB (l_ U f m n o k p) Z (gK [0,1,2,3] Z)) Z (λq=>(y_ [] Z)) λq=>dX Z .nil .nil (KQ Z Z Z Z Z Z) (NM Z)<|dX Z .nil .nil (bR Z Z Z Z Z) hkN<|dX Z (aW.cons 0 Z .nil) .nil (bX 0 Z Z Z Z Z) (aR.h (aW.ix [0] Z Z) .nil aR.z)<|bS 12 Z Z<|aF Z (mA Z Z) Z<|bO Z<|aB Z<|aM ?_;exact bQ (decide (e.2<k.2.1)) () h SF .nil (aE.refl _ _)
  have h:=MP a h;refine bA Z Z Z Z<|bA Z Z Z Z<|bA Z Z Z Z<|bA Z Z Z Z<|bA Z Z Z Z<|bS 12 Z Z<|aD Z<|bT Z<|aB Z<|aM ?_;exact bQ (false) () h SF .nil (aE.refl _ _)
 intro i u h;unfold iU at h;refine aP ?_;cases h;exact gM Z
def iV (a:V4):V1 V4:=
 some (a)
def eT (a:EJ) (c:Int) (d:dJ) (e:Int):V1 V4:=
 if d.1≠(10:Int)then(some (true))else(Option.bind (dH U ((a.1,((((a.2.1.1.1,a.2.1.1.2)),((a.2.1.2.1.1,a.2.1.2.1.2)),((a.2.1.2.2.1.1,a.2.1.2.2.1.2)),((a.2.1.2.2.2.1.1,a.2.1.2.2.2.1.2)),((a.2.1.2.2.2.2.1.1,a.2.1.2.2.2.2.1.2)),((a.2.1.2.2.2.2.2.1.1,a.2.1.2.2.2.2.2.1.2)),((a.2.1.2.2.2.2.2.2.1.1,a.2.1.2.2.2.2.2.2.1.2)),((a.2.1.2.2.2.2.2.2.2.1.1,a.2.1.2.2.2.2.2.2.2.1.2)),((a.2.1.2.2.2.2.2.2.2.2.1.1,a.2.1.2.2.2.2.2.2.2.2.1.2)),((a.2.1.2.2.2.2.2.2.2.2.2.1.1,a.2.1.2.2.2.2.2.2.2.2.2.1.2)),((a.2.1.2.2.2.2.2.2.2.2.2.2.1,a.2.1.2.2.2.2.2.2.2.2.2.2.2)))),a.2.2.1,a.2.2.2.1,a.2.2.2.2))) λf=>(if f.2.1=c then(Option.bind (dH U ((a.1,((((a.2.1.1.1,a.2.1.1.2)),((a.2.1.2.1.1,a.2.1.2.1.2)),((a.2.1.2.2.1.1,a.2.1.2.2.1.2)),((a.2.1.2.2.2.1.1,a.2.1.2.2.2.1.2)),((a.2.1.2.2.2.2.1.1,a.2.1.2.2.2.2.1.2)),((a.2.1.2.2.2.2.2.1.1,a.2.1.2.2.2.2.2.1.2)),((a.2.1.2.2.2.2.2.2.1.1,a.2.1.2.2.2.2.2.2.1.2)),((a.2.1.2.2.2.2.2.2.2.1.1,a.2.1.2.2.2.2.2.2.2.1.2)),((a.2.1.2.2.2.2.2.2.2.2.1.1,a.2.1.2.2.2.2.2.2.2.2.1.2)),((a.2.1.2.2.2.2.2.2.2.2.2.1.1,a.2.1.2.2.2.2.2.2.2.2.2.1.2)),((a.2.1.2.2.2.2.2.2.2.2.2.2.1,a.2.1.2.2.2.2.2.2.2.2.2.2.2)))),a.2.2.1,a.2.2.2.1,a.2.2.2.2))) λb=>(iV (decide (e=(wI .i64 (b.2.2+(1:Int)))))))else(iV (false))))
theorem acU:aX prog 117:=call117
theorem Dk {p0:EJ} {n:Int} {d:dJ} {j:Int} (a:Nat) (f g i:V0) (r:V4) (h:eT U p0 n d j=some r):
  aZ prog 117 #[vP a,vI (n),Value.agg #[vI (d.1),vI (d.2)],vI (j)] [bU a [f,vI (p0.2.1.1.1),vI (p0.2.1.1.2),vI (p0.2.1.2.1.1),vI (p0.2.1.2.1.2),vI (p0.2.1.2.2.1.1),vI (p0.2.1.2.2.1.2),vI (p0.2.1.2.2.2.1.1),vI (p0.2.1.2.2.2.1.2),vI (p0.2.1.2.2.2.2.1.1),vI (p0.2.1.2.2.2.2.1.2),vI (p0.2.1.2.2.2.2.2.1.1),vI (p0.2.1.2.2.2.2.2.1.2),vI (p0.2.1.2.2.2.2.2.2.1.1),vI (p0.2.1.2.2.2.2.2.2.1.2),vI (p0.2.1.2.2.2.2.2.2.2.1.1),vI (p0.2.1.2.2.2.2.2.2.2.1.2),vI (p0.2.1.2.2.2.2.2.2.2.2.1.1),vI (p0.2.1.2.2.2.2.2.2.2.2.1.2),vI (p0.2.1.2.2.2.2.2.2.2.2.2.1.1),vI (p0.2.1.2.2.2.2.2.2.2.2.2.1.2),vI (p0.2.1.2.2.2.2.2.2.2.2.2.2.1),vI (p0.2.1.2.2.2.2.2.2.2.2.2.2.2),g,i,vI (p0.2.2.2.2)] 139,Sl aS f p0.1,Sl cQ g p0.2.2.1,Sl nG i p0.2.2.2.1] (λx:Unit=>vB (r)) (λx l=>l) (λ_ l=>l):=by
 refine aZ.of func117 Z ntmps117 Z λc=>aT<|aK (aO.box (cs:=[vI (d.1),vI (d.2)]) Z Z) Z λs=>Q4 Z<|aI<|aT<|bD Z<|bY 0 Z<|lK Z<|aM<|eF h Z (λh=>?_) λh=>?_
 .refine Q3 Z<|aP<|aG ?_;cases h;exact mK Z
 refine bK<|aI<|cC (λb=>iV b=some r) (λb m=>[(8,vB (b))]) (λb m=>[]) ?_ ?_
 .refine aL<|aA Z<|dG h λo p h=>aK (zB8 NB (l_ U a f g i o p) Z (gK [0,1,2,3] Z)) Z λt=>aC (KQ Z Z Z Z Z Z) Z<|aA Z<|bP Z<|aA Z<|mL h Z (λ_ h=>?_) λ_ h=>?_
  .exact bH Z<|bH Z<|dG h λe k h=>fU Z (zB8 NB (l_ U a f g i e k) Z (gK [0,1,2,3] Z)) Z λq=>aF Z (KQ Z Z Z Z Z Z) Z<|aF Z (BD Z Z) Z<|aF Z (oV Z Z) Z<|bO Z<|Q4 Z<|bQ (decide (j=(wI .i64 (e.2.2+(1:Int))))) () h SF .nil (aE.refl _ _)
  exact aD Z<|aD Z<|aD Z<|aD Z<|aD Z<|aD Z<|bT Z<|Q4 Z<|bQ (false) () h SF .nil (aE.refl _ _)
 intro b m h;unfold iV at h;refine aP ?_;cases h;exact gM Z
def kQ (a:Unit):V1 V4:=
 some (true)
def kR (b:Int) (a:(Int)->V1 V4) (c:V4):V1 V4:=
 if c=true then(some (false))else(a (wI .i64 (b+(1:Int))))
def gJ (d:EJ) (e:Int) (c:dJ) (a:Int) (b:(Int)->V1 V4):V1 V4:=
 if a<((List.drop (Int.toNat (wI .i64 (e+(1:Int)))) (List.take (Int.toNat c.2) d.1)).length:Int)then(ck (0<=a/\a<((List.drop (Int.toNat (wI .i64 (e+(1:Int)))) (List.take (Int.toNat c.2) d.1)).length:Int)) (if((at' (List.drop (Int.toNat (wI .i64 (e+(1:Int)))) (List.take (Int.toNat c.2) d.1)) a).1)=(9:Int)then(kR a b (decide (c.2<=((at' (List.drop (Int.toNat (wI .i64 (e+(1:Int)))) (List.take (Int.toNat c.2) d.1)) a).2))))else(kR a b (false))))else(kQ (()))
def kP (c:EJ) (a:Int) (b:dJ) (d:V4):V1 V4:=
 if d=true then(some (false))else(ck (0<=(wI .i64 (a+(1:Int)))/\(wI .i64 (a+(1:Int)))<=b.2/\b.2<=(c.1.length:Int)) (bG (gJ c a b) U (0:Int)))
def fO (a:EJ) (c:Int) (b:dJ) (e:V4):V1 V4:=
 if e=true then(some (true))else(if b.2<=c then(kP U a c b (true))else(Option.bind (dH U ((a.1,((((a.2.1.1.1,a.2.1.1.2)),((a.2.1.2.1.1,a.2.1.2.1.2)),((a.2.1.2.2.1.1,a.2.1.2.2.1.2)),((a.2.1.2.2.2.1.1,a.2.1.2.2.2.1.2)),((a.2.1.2.2.2.2.1.1,a.2.1.2.2.2.2.1.2)),((a.2.1.2.2.2.2.2.1.1,a.2.1.2.2.2.2.2.1.2)),((a.2.1.2.2.2.2.2.2.1.1,a.2.1.2.2.2.2.2.2.1.2)),((a.2.1.2.2.2.2.2.2.2.1.1,a.2.1.2.2.2.2.2.2.2.1.2)),((a.2.1.2.2.2.2.2.2.2.2.1.1,a.2.1.2.2.2.2.2.2.2.2.1.2)),((a.2.1.2.2.2.2.2.2.2.2.2.1.1,a.2.1.2.2.2.2.2.2.2.2.2.1.2)),((a.2.1.2.2.2.2.2.2.2.2.2.2.1,a.2.1.2.2.2.2.2.2.2.2.2.2.2)))),a.2.2.1,a.2.2.2.1,a.2.2.2.2))) λd=>(kP U a c b (decide (d.2.1<b.2)))))
def eS (b:EJ) (c:Int) (a:dJ):V1 V4:=
 if a.1≠(7:Int)then(fO U b c a (decide (a.1≠(8:Int))))else(fO U b c a (false))
theorem acV:aX prog 118:=call118
theorem Dj (U:Nat) {p0:EJ} {g:Int} {b:dJ} (e:Nat) (A C D:V0) (r:Bool) (h:eS U p0 g b=some r):
  aZ prog 118 #[vP e,vI (g),Value.agg #[vI (b.1),vI (b.2)]] [bU e [A,vI (p0.2.1.1.1),vI (p0.2.1.1.2),vI (p0.2.1.2.1.1),vI (p0.2.1.2.1.2),vI (p0.2.1.2.2.1.1),vI (p0.2.1.2.2.1.2),vI (p0.2.1.2.2.2.1.1),vI (p0.2.1.2.2.2.1.2),vI (p0.2.1.2.2.2.2.1.1),vI (p0.2.1.2.2.2.2.1.2),vI (p0.2.1.2.2.2.2.2.1.1),vI (p0.2.1.2.2.2.2.2.1.2),vI (p0.2.1.2.2.2.2.2.2.1.1),vI (p0.2.1.2.2.2.2.2.2.1.2),vI (p0.2.1.2.2.2.2.2.2.2.1.1),vI (p0.2.1.2.2.2.2.2.2.2.1.2),vI (p0.2.1.2.2.2.2.2.2.2.2.1.1),vI (p0.2.1.2.2.2.2.2.2.2.2.1.2),vI (p0.2.1.2.2.2.2.2.2.2.2.2.1.1),vI (p0.2.1.2.2.2.2.2.2.2.2.2.1.2),vI (p0.2.1.2.2.2.2.2.2.2.2.2.2.1),vI (p0.2.1.2.2.2.2.2.2.2.2.2.2.2),C,D,vI (p0.2.2.2.2)] 139,Sl aS A p0.1,Sl cQ C p0.2.2.1,Sl nG D p0.2.2.2.1] (λx:Unit=>vB (r)) (λx l=>l) (λ_ l=>l):=by
 let o:=(Int.toNat b.2)
 let n:=(Int.toNat (wI .i64 (g+(1:Int))))
 let i:=(List.drop n (List.take o p0.1))
 refine aZ.of func118 Z ntmps118 Z λc=>?_;refine aT<|aK (aO.box (cs:=[vI (b.1),vI (b.2)]) Z Z) Z λs=>let m:=bU s [vI (b.1),vI (b.2)] 85;aB Z<|aM<|aI<|aI<|cC (λp=>fO U p0 g b p=some r) (λp G=>[(0,vP e),(1,vI (g)),(5,vP s),(16,vB (p))]) (λp G=>[m]) ?_ ?_
 .refine aL<|bD Z<|bY 0 Z<|lK Z<|aA Z ?_;refine mL h Z (λ_ h=>?_) λ_ h=>?_
  .refine aF Z (bR Z Z Z Z Z) Z<|aF Z (bX 0 Z Z Z Z Z) Z<|aF Z (xH Z Z) Z<|bO Z<|aM ?_;exact cF (decide (b.1≠(8:Int))) () h SF Z
  refine aD Z<|aD Z<|aD Z<|bT Z<|aM ?_;exact cF (false) () h SF Z
 intro p G h;refine iA h Z (λ_ h=>?_) λ_ h=>?_
 .refine aT<|aB Z<|aM<|aP<|aG ?_;cases h;exact mK Z
 refine bK<|aI<|aI<|cC (λq=>kP U p0 g b q=some r) (λq H=>[(0,vP e),(1,vI (g)),(5,vP s),(28,vB (q))]) (λq H=>[m]) ?_ ?_
 .refine xP [0,1,0,7,15,31,63,31,159,415,1023,2047] 10 mixedOrders ?_;refine dA Z<|iH 0 Z<|bE Z<|iD Z (nH Z Z)<|bE Z ?_;refine wE (by exact rfl) (by exact rfl) (by exact rfl) (λf=>?_) (λf=>?_)
  .have h:=Bt f h;refine bA Z Z Z Z<|bA Z Z Z Z<|bA Z Z Z Z<|bA Z Z Z Z<|bA Z Z Z Z<|bS 10 Z Z<|aD Z<|bO Z<|aM ?_;exact cF (true) () h SF Z
  have h:=MP f h;refine dX Z .nil .nil (bR Z Z Z Z Z) aR.z<|dX Z (aW.cons 0 Z .nil) .nil (bX 0 Z Z Z Z Z) aR.z<|dX Z .nil .nil (fN Z) aR.z<|dG h λy E h=>Fo Z Z Z Z (zB8 NB (l_ U e A C D y E) Z (gK [0,1,2,3] Z)) Z (λF=>(y_ [([0],[])] Z)) λF=>dX Z .nil .nil (KQ Z Z Z Z Z Z) (NM Z)<|bS 10 Z Z<|aF Z (mA Z Z) Z<|bT Z<|aM ?_;exact cF (decide (y.2.1<b.2)) () h SF Z
 intro q H h;refine iA h Z (λ_ h=>?_) λ_ h=>?_
 .refine aT<|aB Z<|aM<|aP<|aG ?_;cases h;exact mK Z
 refine bK<|aI<|cC (λj=>kQ j=some r) (λj t=>[]) (λj t=>[]) ?_ ?_
 .refine aI ?_;refine xP [0,1,3,7,0,16,0,64,255,511,0] 11 mixedOrders ?_;refine bE Z<|iD Z (aV Z)<|dA Z<|bI Z .nil (jP 0 Z) (eN Z (cG Z) Z Z Z) aR.z<|bE Z<|iD Z (BD Z Z)<|dA Z<|iH 0 Z<|eX h λk h=>bI Z .nil (jP 1 Z) (Yn Z Z Z (cG Z) Z Z k) aR.z<|bI Z .nil (jP 1 Z) (dO Z (aQ.part (cG Z) Z k) Z) aR.z<|bE Z<|JR.done<|HD<|aU<|eP (gJ p0 g b) (λa u=>[(5,vP s),(37,Mw A n o 2),(38,vI (i.length:Int)),(39,vI (a))]) (λa u=>[m]) (0:Int) () h SF (aW.refl _) ?_;intro B a u h;refine aT<|cX Z<|aM<|aI ?_;refine eF h Z (λh=>?_) λh=>?_
  .refine bK<|aI<|aU<|aT<|eX h λw h=>aC (a_ Z Z (aQ.part (iZ Z) Z k) Z Z w) Z<|aC (eO (cs:=[vI ((at' i a).1),vI ((at' i a).2)]) Z (aQ.part (iZ Z) Z k) dL Z Z Z Z w) Z<|aK (aO.alloc (cs:=SG) Z Z) Z λI=>cO 0 (vs:=[vI ((at' (List.drop (Int.toNat (wI .i64 (g+(1:Int)))) (List.take (Int.toNat b.2) p0.1)) a).1),vI ((at' (List.drop (Int.toNat (wI .i64 (g+(1:Int)))) (List.take (Int.toNat b.2) p0.1)) a).2)]) Z Z Z Z Z Z<|aM<|aI<|cC (λd=>kR a (bG (gJ p0 g b) B) d=some r) (λd v=>[(5,vP s),(37,Mw A n o 2),(38,vI (i.length:Int)),(39,vI (a)),(52,vB (d))]) (λd v=>[m]) ?_ ?_
   .refine aL<|bD Z<|bY 0 Z<|bP Z<|aA Z ?_;refine mL h Z (λ_ h=>?_) λ_ h=>?_
    .refine aF Z (bR Z Z Z Z Z) Z<|aF Z (bX 0 Z Z Z Z Z) Z<|aF Z (bR Z Z Z Z Z) Z<|aF Z (bX 1 Z Z Z Z Z) Z<|aF Z (lD Z Z) Z<|bO Z<|aM ?_;exact bQ (decide (b.2<=((at' i a).2))) () h SF (aW.ix [1] Z Z) (aE.refl _ _)
    refine aD Z<|aD Z<|aD Z<|aD Z<|aD Z<|bT Z<|aM ?_;exact bQ (false) () h SF (aW.ix [1] Z Z) (aE.refl _ _)
   intro d v h;refine iA h Z (λ_ h=>?_) λ_ h=>?_
   .refine aT<|aB Z<|aM<|aP<|bB<|aG<|aG<|bB<|aG ?_;cases h;exact mK Z
   refine cZ<|jZ<|aL<|cP Z<|aA Z<|aM ?_;exact Ac (wI .i64 (a+(1:Int))) () h SF Z
  refine fK ?_;exact bQ () (()) h SF .nil (aE.refl _ _)
 intro j t h;unfold kQ at h;refine aT<|aB Z<|aM<|aP ?_;cases h;exact gM Z
def oM (a:EJ) (b:bN) (c:Int):V1 SE:=
 some ((0:Int),a.2.1.1.1,a.2.1.1.2,a.2.1.2.1.1,a.2.1.2.1.2,a.2.1.2.2.1.1,a.2.1.2.2.1.2,a.2.1.2.2.2.1.1,a.2.1.2.2.2.1.2,a.2.1.2.2.2.2.1.1,a.2.1.2.2.2.2.1.2,a.2.1.2.2.2.2.2.1.1,a.2.1.2.2.2.2.2.1.2,a.2.1.2.2.2.2.2.2.1.1,a.2.1.2.2.2.2.2.2.1.2,a.2.1.2.2.2.2.2.2.2.1.1,a.2.1.2.2.2.2.2.2.2.1.2,a.2.1.2.2.2.2.2.2.2.2.1.1,a.2.1.2.2.2.2.2.2.2.2.1.2,a.2.1.2.2.2.2.2.2.2.2.2.1.1,a.2.1.2.2.2.2.2.2.2.2.2.1.2,a.2.1.2.2.2.2.2.2.2.2.2.2.1,a.2.1.2.2.2.2.2.2.2.2.2.2.2,b,c)
def fC (a:EJ) (c:cJ) (e:bN) (b:dJ) (d:dW->V1 SE):V1 SE:=
 if b.1<(c.length:Int)then(ck (0<=b.1/\b.1<(c.length:Int)) (if(64:Int)<((at' c b.1).2)then(some ((3:Int),a.2.1.1.1,a.2.1.1.2,a.2.1.2.1.1,a.2.1.2.1.2,a.2.1.2.2.1.1,a.2.1.2.2.1.2,a.2.1.2.2.2.1.1,a.2.1.2.2.2.1.2,a.2.1.2.2.2.2.1.1,a.2.1.2.2.2.2.1.2,a.2.1.2.2.2.2.2.1.1,a.2.1.2.2.2.2.2.1.2,a.2.1.2.2.2.2.2.2.1.1,a.2.1.2.2.2.2.2.2.1.2,a.2.1.2.2.2.2.2.2.2.1.1,a.2.1.2.2.2.2.2.2.2.1.2,a.2.1.2.2.2.2.2.2.2.2.1.1,a.2.1.2.2.2.2.2.2.2.2.1.2,a.2.1.2.2.2.2.2.2.2.2.2.1.1,a.2.1.2.2.2.2.2.2.2.2.2.1.2,a.2.1.2.2.2.2.2.2.2.2.2.2.1,a.2.1.2.2.2.2.2.2.2.2.2.2.2,e,b.2))else(d ((wI .i64 (b.1+(1:Int))),(max b.2 ((at' c b.1).2))))))else(oM a e (b.2))
def oL (a:EJ) (c:cJ) (b:bN):V1 SE:=
 bG (fC a c b) U ((0:Int),a.2.2.2.2)
def oO (a:EJ) (d:cJ) (b:Int×bN) (c:(Int×bN)->V1 SE) (e:V4):V1 SE:=
 if e=true then(some ((7:Int),a.2.1.1.1,a.2.1.1.2,a.2.1.2.1.1,a.2.1.2.1.2,a.2.1.2.2.1.1,a.2.1.2.2.1.2,a.2.1.2.2.2.1.1,a.2.1.2.2.2.1.2,a.2.1.2.2.2.2.1.1,a.2.1.2.2.2.2.1.2,a.2.1.2.2.2.2.2.1.1,a.2.1.2.2.2.2.2.1.2,a.2.1.2.2.2.2.2.2.1.1,a.2.1.2.2.2.2.2.2.1.2,a.2.1.2.2.2.2.2.2.2.1.1,a.2.1.2.2.2.2.2.2.2.1.2,a.2.1.2.2.2.2.2.2.2.2.1.1,a.2.1.2.2.2.2.2.2.2.2.1.2,a.2.1.2.2.2.2.2.2.2.2.2.1.1,a.2.1.2.2.2.2.2.2.2.2.2.1.2,a.2.1.2.2.2.2.2.2.2.2.2.2.1,a.2.1.2.2.2.2.2.2.2.2.2.2.2,b.2,a.2.2.2.2))else(ck (0<=((at' d b.1).1)/\((at' d b.1).1)<(b.2.length:Int)) (c ((wI .i64 (b.1+(1:Int))),(List.set b.2 (Int.toNat ((at' d b.1).1)) ((at' d b.1).2)))))
def d_ (d:EJ) (b:cJ) (a:Int×bN) (c:(Int×bN)->V1 SE):V1 SE:=
 if a.1<(b.length:Int)then(ck (0<=a.1/\a.1<(b.length:Int)) (ck (0<=((at' b a.1).1)/\((at' b a.1).1)<(a.2.length:Int)) (if(0:Int)<=(at' a.2 ((at' b a.1).1))then(oO d b a c (decide ((at' a.2 ((at' b a.1).1))≠((at' b a.1).2))))else(oO d b a c (false)))))else(oL U d b (a.2))
def cD (a:EJ) (b:cJ):V1 SE:=
 bG (d_ U a b) U ((0:Int),a.2.2.1)
theorem Jr:aX prog 157:=call157
theorem kL (U:Nat) {p0:EJ} {j:cJ} (g:Nat) (u s D n:V0) (r:Int×Int×Int×Int×Int×Int×Int×Int×Int×Int×Int×Int×Int×Int×Int×Int×Int×Int×Int×Int×Int×Int×Int×bN×Int) (h:cD U p0 j=some r):
  jT prog 157 #[vP g,n] [bU g [u,vI (p0.2.1.1.1),vI (p0.2.1.1.2),vI (p0.2.1.2.1.1),vI (p0.2.1.2.1.2),vI (p0.2.1.2.2.1.1),vI (p0.2.1.2.2.1.2),vI (p0.2.1.2.2.2.1.1),vI (p0.2.1.2.2.2.1.2),vI (p0.2.1.2.2.2.2.1.1),vI (p0.2.1.2.2.2.2.1.2),vI (p0.2.1.2.2.2.2.2.1.1),vI (p0.2.1.2.2.2.2.2.1.2),vI (p0.2.1.2.2.2.2.2.2.1.1),vI (p0.2.1.2.2.2.2.2.2.1.2),vI (p0.2.1.2.2.2.2.2.2.2.1.1),vI (p0.2.1.2.2.2.2.2.2.2.1.2),vI (p0.2.1.2.2.2.2.2.2.2.2.1.1),vI (p0.2.1.2.2.2.2.2.2.2.2.1.2),vI (p0.2.1.2.2.2.2.2.2.2.2.2.1.1),vI (p0.2.1.2.2.2.2.2.2.2.2.2.1.2),vI (p0.2.1.2.2.2.2.2.2.2.2.2.2.1),vI (p0.2.1.2.2.2.2.2.2.2.2.2.2.2),s,D,vI (p0.2.2.2.2)] 139,Ar cK s p0.2.2.1] [Sl aS u p0.1,Sl nG D p0.2.2.2.1,Sl aS n j] (λx:V0=>vI (r.1)) (λx l=>bU g [u,vI (r.2.1),vI (r.2.2.1),vI (r.2.2.2.1),vI (r.2.2.2.2.1),vI (r.2.2.2.2.2.1),vI (r.2.2.2.2.2.2.1),vI (r.2.2.2.2.2.2.2.1),vI (r.2.2.2.2.2.2.2.2.1),vI (r.2.2.2.2.2.2.2.2.2.1),vI (r.2.2.2.2.2.2.2.2.2.2.1),vI (r.2.2.2.2.2.2.2.2.2.2.2.1),vI (r.2.2.2.2.2.2.2.2.2.2.2.2.1),vI (r.2.2.2.2.2.2.2.2.2.2.2.2.2.1),vI (r.2.2.2.2.2.2.2.2.2.2.2.2.2.2.1),vI (r.2.2.2.2.2.2.2.2.2.2.2.2.2.2.2.1),vI (r.2.2.2.2.2.2.2.2.2.2.2.2.2.2.2.2.1),vI (r.2.2.2.2.2.2.2.2.2.2.2.2.2.2.2.2.2.1),vI (r.2.2.2.2.2.2.2.2.2.2.2.2.2.2.2.2.2.2.1),vI (r.2.2.2.2.2.2.2.2.2.2.2.2.2.2.2.2.2.2.2.1),vI (r.2.2.2.2.2.2.2.2.2.2.2.2.2.2.2.2.2.2.2.2.1),vI (r.2.2.2.2.2.2.2.2.2.2.2.2.2.2.2.2.2.2.2.2.2.1),vI (r.2.2.2.2.2.2.2.2.2.2.2.2.2.2.2.2.2.2.2.2.2.2.1),x,D,vI (r.2.2.2.2.2.2.2.2.2.2.2.2.2.2.2.2.2.2.2.2.2.2.2.2)] 139::Ar cK x r.2.2.2.2.2.2.2.2.2.2.2.2.2.2.2.2.2.2.2.2.2.2.2.1::l):=by
 let K:=Value.pointer (some ⟨g,0,none⟩);let p:=p0.2.1.2.1;let C:=vI (j.length:Int);let t:=Sl nG D p0.2.2.2.1;let e:=p0.2.1.2.2;let q:=e.2.2.1;let d:=e.2.2.2;let k:=d.2.2.1;let a:=d.2.2.2;let A:=bU g [u,vI (p0.2.1.1.1),vI (p0.2.1.1.2),vI (p.1),vI (p.2),vI (e.1.1),vI (e.1.2),vI (e.2.1.1),vI (e.2.1.2),vI (q.1),vI (q.2),vI (d.1.1),vI (d.1.2),vI (d.2.1.1),vI (d.2.1.2),vI (k.1),vI (k.2),vI (a.1.1),vI (a.1.2),vI (a.2.1.1),vI (a.2.1.2),vI (a.2.2.1),vI (a.2.2.2),s,D,vI (p0.2.2.2.2)] 139;refine jT.of (vs:=[vP g,n]) func157 Z ntmps157 Z λc=>?_;unfold cD at h;refine aT<|aB Z<|aM<|aI<|xD (B:=Unit) (λv=>oL U p0 j v=some r) (λv L=>[(0,vP g),(1,n)]) (λv L=>[A,Ar cK s v]) (λv L=>[Sl aS u p0.1,t,Sl aS n j]) ?_ ?_
 .refine aT<|aA Z<|eL (FA Z) Z<|aA Z<|aM<|aU ?_;refine Dp (B:=Unit) (d_ U p0 j) (λb y=>[(0,K),(1,n),(10,n),(11,C),(12,vI (b.1))]) (λb y=>[A,Ar cK s b.2]) (λb y=>[Sl aS u p0.1,t,Sl aS n j]) ((0:Int),p0.2.2.1) () h SF (by dsimp only;exact aW.refl _) (aE.refl _ _) ?_;intro N b y h;let m:=(at' j b.1)
  refine aT<|cX Z<|aM<|aI ?_;refine eF h Z (λh=>?_) λh=>?_
  .refine bK<|aI<|aU<|aT<|eX h λH h=>aC (a_ Z Z (FA Z) Z Z H) Z<|aC (eO (cs:=[vI (m.1),vI (m.2)]) Z (FA Z) dL Z Z Z Z H) Z<|aK (aO.alloc (cs:=SG) Z Z) Z λF=>cO 0 (vs:=[vI ((at' j b.1).1),vI ((at' j b.1).2)]) Z Z Z Z Z Z<|aM<|aI<|aI ?_;refine xP [0,1,3,7,0,16,63,127,255] 6 mixedOrders ?_;refine bE Z<|iD Z (aV Z)<|dA Z<|iH 1 Z ?_;refine iD Z (jA (i:=0) Z Z Z Z Z (by decide)) ?_;refine iH 0 Z<|bS 6 Z Z<|eX h λI h=>aC (a_ Z Z (bL (aQ.res 2 Z) fH) Z Z I) Z<|aC (eC Z (bL (aQ.res 2 Z) fH) Z Z Z gC I) Z<|aB Z<|aM<|aI<|xD (B:=Unit) (λo=>oO p0 j b (bG (d_ U p0 j) N) o=some r) (λo z=>[(0,vP g),(1,n),(6,vP F),(10,n),(11,C),(12,vI (b.1)),(31,vB (o))]) (λo z=>[bU F [vI (m.1),vI (m.2)] 100,A,Ar cK s b.2]) (λo z=>[Sl aS u p0.1,t,Sl aS n j]) ?_ ?_
   .refine aL<|aA Z<|aC (lD Z Z) Z<|aA Z ?_;refine mL h Z (λ_ h=>?_) λ_ h=>?_
    .refine bH Z ?_;refine aF Z (jA (i:=1) Z Z Z Z Z (by decide)) Z ?_;refine aF Z (bX 0 Z Z Z Z Z) Z<|aF Z (xH Z Z) Z<|bO Z<|aM ?_;exact cF (decide ((at' b.2 (m.1))≠(m.2))) () h SF Z
    refine aD Z<|aD Z<|aD Z<|aD Z<|bT Z<|aM ?_;exact cF (false) () h SF Z
   intro o z h;refine iA h Z (λ_ h=>?_) λ_ h=>?_
   .refine aT<|aB Z<|aM<|aP<|aG<|bB<|aG<|aG<|bB<|aG ?_;cases h;exact mS (s) Z Z (RV.tmp Z) (aW.ix [1,2] Z Z) aE.nil
   refine bK ?_;refine xP [0,1,3,7,0,16,0,64,255,511] 8 mixedOrders ?_;refine bE Z<|iD Z (aV Z)<|dA Z<|iH 1 Z ?_;refine iD Z (jA (i:=0) Z Z Z Z Z (by decide)) ?_;refine iH 0 Z ?_;refine iD Z (jA (i:=1) Z Z Z Z Z (by decide)) ?_;refine iH 0 Z<|bS 8 Z Z<|eX h λJ h=>aC (a_ Z Z (bL (aQ.res 2 Z) fH) Z Z J) Z<|Hc 2 (m.2) J Z Z Z Z Z Z Z<|dK<|jZ<|aL<|cP Z<|aA Z<|aM ?_;exact fI ((wI .i64 (b.1+(1:Int))),(List.set b.2 (Int.toNat (m.1)) (m.2))) () h SF (aW.ix [1,2] Z Z) (aE.refl _ _)
  refine fK ?_;exact cF (b.2) () h SF Z
 intro v L h;unfold oL at h;refine aI<|xD (B:=Unit) (λE=>oM p0 v E=some r) (λE M=>[]) (λE M=>[bU g [u,vI (p0.2.1.1.1),vI (p0.2.1.1.2),vI (p.1),vI (p.2),vI (e.1.1),vI (e.1.2),vI (e.2.1.1),vI (e.2.1.2),vI (q.1),vI (q.2),vI (d.1.1),vI (d.1.2),vI (d.2.1.1),vI (d.2.1.2),vI (k.1),vI (k.2),vI (a.1.1),vI (a.1.2),vI (a.2.1.1),vI (a.2.1.2),vI (a.2.2.1),vI (a.2.2.2),s,D,vI (E)] 139,Ar cK s v]) (λE M=>[Sl aS u p0.1,t,Sl aS n j]) ?_ ?_
 .refine aT<|aA Z<|eL (FA Z) Z<|aA Z<|aM<|aU ?_;refine Dp (B:=Unit) (fC p0 j v) (λf w=>[(0,K),(42,n),(43,C),(44,vI (f.1))]) (λf w=>[bU g [u,vI (p0.2.1.1.1),vI (p0.2.1.1.2),vI (p.1),vI (p.2),vI (e.1.1),vI (e.1.2),vI (e.2.1.1),vI (e.2.1.2),vI (q.1),vI (q.2),vI (d.1.1),vI (d.1.2),vI (d.2.1.1),vI (d.2.1.2),vI (k.1),vI (k.2),vI (a.1.1),vI (a.1.2),vI (a.2.1.1),vI (a.2.1.2),vI (a.2.2.1),vI (a.2.2.2),s,D,vI (f.2)] 139,Ar cK s v]) (λf w=>[Sl aS u p0.1,t,Sl aS n j]) ((0:Int),p0.2.2.2.2) () h SF (by dsimp only;exact aW.refl _) (aE.refl _ _) ?_;intro P f w h;refine aT<|cX Z<|aM<|aI ?_;refine eF h Z (λh=>?_) λh=>?_
  .refine bK<|aI<|aU<|aT<|eX h λG h=>aC (a_ Z Z (FA Z) Z Z G) Z<|aC (eO (cs:=[vI ((at' j f.1).1),vI ((at' j f.1).2)]) Z (FA Z) dL Z Z Z Z G) Z<|aK (aO.alloc (cs:=SG) Z Z) Z λO=>cO 0 (vs:=[vI ((at' j f.1).1),vI ((at' j f.1).2)]) Z Z Z Z Z Z<|aM<|aI<|aT ?_;refine aC (jA (i:=1) Z Z Z Z Z (by decide)) Z ?_;refine bY 0 Z<|aC (mA Z Z) Z<|aM ?_;refine eF h Z (λh=>?_) λh=>?_
   .refine aT<|aB Z<|aM<|aP<|aG<|bB<|aG<|aG<|bB<|aG ?_;cases h;exact mS (s) Z Z (RV.tmp Z) (aW.ix [1,2] Z Z) aE.nil
   refine bK ?_;refine xP [0,0,2,6,14,0,32,126,255,511,1023] 8 mixedOrders ?_;refine bE Z<|bE Z<|iD Z (aV Z)<|dA Z<|iH 1 Z ?_;refine iD Z (jA (i:=1) Z Z Z Z Z (by decide)) ?_;refine iH 0 Z<|iD Z (Gm Z Z)<|bS 8 Z Z<|aC (aV Z) Z<|bD Z<|i_ 1 Z Z Z Z Z Z<|dK<|jZ<|aL<|cP Z<|aA Z<|aM ?_;exact fI ((wI .i64 (f.1+(1:Int))),(max f.2 ((at' j f.1).2))) () h SF (aW.ix [1,2] Z Z) (aE.refl _ _)
  refine fK ?_;exact cF (f.2) () h SF Z
 intro E M h;unfold oM at h;refine aT<|aB Z<|aM<|aP ?_;cases h;exact mS (s) Z Z (RV.tmp Z) (aW.refl _) aE.nil
def kU (p0:EJ) (c d:Int) (b:(V6 (Int×Int×Int))):V1 abP:=
 Option.bind (cD U ((p0.1,((((p0.2.1.1.1,p0.2.1.1.2)),((p0.2.1.2.1.1,p0.2.1.2.1.2)),((p0.2.1.2.2.1.1,p0.2.1.2.2.1.2)),((p0.2.1.2.2.2.1.1,p0.2.1.2.2.2.1.2)),((p0.2.1.2.2.2.2.1.1,p0.2.1.2.2.2.2.1.2)),((p0.2.1.2.2.2.2.2.1.1,p0.2.1.2.2.2.2.2.1.2)),((p0.2.1.2.2.2.2.2.2.1.1,p0.2.1.2.2.2.2.2.2.1.2)),((p0.2.1.2.2.2.2.2.2.2.1.1,p0.2.1.2.2.2.2.2.2.2.1.2)),((p0.2.1.2.2.2.2.2.2.2.2.1.1,p0.2.1.2.2.2.2.2.2.2.2.1.2)),((p0.2.1.2.2.2.2.2.2.2.2.2.1.1,p0.2.1.2.2.2.2.2.2.2.2.2.1.2)),((p0.2.1.2.2.2.2.2.2.2.2.2.2.1,p0.2.1.2.2.2.2.2.2.2.2.2.2.2)))),p0.2.2.1,b,p0.2.2.2.2)) ([((wI .i64 (c+(1:Int))),d)])) λa=>(some (a.1,a.2.1,a.2.2.1,a.2.2.2.1,a.2.2.2.2.1,a.2.2.2.2.2.1,a.2.2.2.2.2.2.1,a.2.2.2.2.2.2.2.1,a.2.2.2.2.2.2.2.2.1,a.2.2.2.2.2.2.2.2.2.1,a.2.2.2.2.2.2.2.2.2.2.1,a.2.2.2.2.2.2.2.2.2.2.2.1,a.2.2.2.2.2.2.2.2.2.2.2.2.1,a.2.2.2.2.2.2.2.2.2.2.2.2.2.1,a.2.2.2.2.2.2.2.2.2.2.2.2.2.2.1,a.2.2.2.2.2.2.2.2.2.2.2.2.2.2.2.1,a.2.2.2.2.2.2.2.2.2.2.2.2.2.2.2.2.1,a.2.2.2.2.2.2.2.2.2.2.2.2.2.2.2.2.2.1,a.2.2.2.2.2.2.2.2.2.2.2.2.2.2.2.2.2.2.1,a.2.2.2.2.2.2.2.2.2.2.2.2.2.2.2.2.2.2.2.1,a.2.2.2.2.2.2.2.2.2.2.2.2.2.2.2.2.2.2.2.2.1,a.2.2.2.2.2.2.2.2.2.2.2.2.2.2.2.2.2.2.2.2.2.1,a.2.2.2.2.2.2.2.2.2.2.2.2.2.2.2.2.2.2.2.2.2.2.1,a.2.2.2.2.2.2.2.2.2.2.2.2.2.2.2.2.2.2.2.2.2.2.2.1,b,a.2.2.2.2.2.2.2.2.2.2.2.2.2.2.2.2.2.2.2.2.2.2.2.2))
def cU (p0:EJ) (h:Int) (g:dJ) (f:Int) (i:V4):V1 abP:=
 if i=true then(Option.bind (cD U ((p0.1,((((p0.2.1.1.1,p0.2.1.1.2)),((p0.2.1.2.1.1,p0.2.1.2.1.2)),((p0.2.1.2.2.1.1,p0.2.1.2.2.1.2)),((p0.2.1.2.2.2.1.1,p0.2.1.2.2.2.1.2)),((p0.2.1.2.2.2.2.1.1,p0.2.1.2.2.2.2.1.2)),((p0.2.1.2.2.2.2.2.1.1,p0.2.1.2.2.2.2.2.1.2)),((p0.2.1.2.2.2.2.2.2.1.1,p0.2.1.2.2.2.2.2.2.1.2)),((p0.2.1.2.2.2.2.2.2.2.1.1,p0.2.1.2.2.2.2.2.2.2.1.2)),((p0.2.1.2.2.2.2.2.2.2.2.1.1,p0.2.1.2.2.2.2.2.2.2.2.1.2)),((p0.2.1.2.2.2.2.2.2.2.2.2.1.1,p0.2.1.2.2.2.2.2.2.2.2.2.1.2)),((p0.2.1.2.2.2.2.2.2.2.2.2.2.1,p0.2.1.2.2.2.2.2.2.2.2.2.2.2)))),p0.2.2.1,p0.2.2.2.1,p0.2.2.2.2)) ([((wI .i64 (h+(1:Int))),(wI .i64 (f+(1:Int))))])) λa=>(some (a.1,a.2.1,a.2.2.1,a.2.2.2.1,a.2.2.2.2.1,a.2.2.2.2.2.1,a.2.2.2.2.2.2.1,a.2.2.2.2.2.2.2.1,a.2.2.2.2.2.2.2.2.1,a.2.2.2.2.2.2.2.2.2.1,a.2.2.2.2.2.2.2.2.2.2.1,a.2.2.2.2.2.2.2.2.2.2.2.1,a.2.2.2.2.2.2.2.2.2.2.2.2.1,a.2.2.2.2.2.2.2.2.2.2.2.2.2.1,a.2.2.2.2.2.2.2.2.2.2.2.2.2.2.1,a.2.2.2.2.2.2.2.2.2.2.2.2.2.2.2.1,a.2.2.2.2.2.2.2.2.2.2.2.2.2.2.2.2.1,a.2.2.2.2.2.2.2.2.2.2.2.2.2.2.2.2.2.1,a.2.2.2.2.2.2.2.2.2.2.2.2.2.2.2.2.2.2.1,a.2.2.2.2.2.2.2.2.2.2.2.2.2.2.2.2.2.2.2.1,a.2.2.2.2.2.2.2.2.2.2.2.2.2.2.2.2.2.2.2.2.1,a.2.2.2.2.2.2.2.2.2.2.2.2.2.2.2.2.2.2.2.2.2.1,a.2.2.2.2.2.2.2.2.2.2.2.2.2.2.2.2.2.2.2.2.2.2.1,a.2.2.2.2.2.2.2.2.2.2.2.2.2.2.2.2.2.2.2.2.2.2.2.1,p0.2.2.2.1,a.2.2.2.2.2.2.2.2.2.2.2.2.2.2.2.2.2.2.2.2.2.2.2.2)))else(if g.1=(6:Int)then(Option.bind (cD U ((p0.1,((((p0.2.1.1.1,p0.2.1.1.2)),((p0.2.1.2.1.1,p0.2.1.2.1.2)),((p0.2.1.2.2.1.1,p0.2.1.2.2.1.2)),((p0.2.1.2.2.2.1.1,p0.2.1.2.2.2.1.2)),((p0.2.1.2.2.2.2.1.1,p0.2.1.2.2.2.2.1.2)),((p0.2.1.2.2.2.2.2.1.1,p0.2.1.2.2.2.2.2.1.2)),((p0.2.1.2.2.2.2.2.2.1.1,p0.2.1.2.2.2.2.2.2.1.2)),((p0.2.1.2.2.2.2.2.2.2.1.1,p0.2.1.2.2.2.2.2.2.2.1.2)),((p0.2.1.2.2.2.2.2.2.2.2.1.1,p0.2.1.2.2.2.2.2.2.2.2.1.2)),((p0.2.1.2.2.2.2.2.2.2.2.2.1.1,p0.2.1.2.2.2.2.2.2.2.2.2.1.2)),((p0.2.1.2.2.2.2.2.2.2.2.2.2.1,p0.2.1.2.2.2.2.2.2.2.2.2.2.2)))),p0.2.2.1,p0.2.2.2.1,p0.2.2.2.2)) ([((wI .i64 (h+(1:Int))),(wI .i64 (f - (1:Int))))])) λb=>(some (b.1,b.2.1,b.2.2.1,b.2.2.2.1,b.2.2.2.2.1,b.2.2.2.2.2.1,b.2.2.2.2.2.2.1,b.2.2.2.2.2.2.2.1,b.2.2.2.2.2.2.2.2.1,b.2.2.2.2.2.2.2.2.2.1,b.2.2.2.2.2.2.2.2.2.2.1,b.2.2.2.2.2.2.2.2.2.2.2.1,b.2.2.2.2.2.2.2.2.2.2.2.2.1,b.2.2.2.2.2.2.2.2.2.2.2.2.2.1,b.2.2.2.2.2.2.2.2.2.2.2.2.2.2.1,b.2.2.2.2.2.2.2.2.2.2.2.2.2.2.2.1,b.2.2.2.2.2.2.2.2.2.2.2.2.2.2.2.2.1,b.2.2.2.2.2.2.2.2.2.2.2.2.2.2.2.2.2.1,b.2.2.2.2.2.2.2.2.2.2.2.2.2.2.2.2.2.2.1,b.2.2.2.2.2.2.2.2.2.2.2.2.2.2.2.2.2.2.2.1,b.2.2.2.2.2.2.2.2.2.2.2.2.2.2.2.2.2.2.2.2.1,b.2.2.2.2.2.2.2.2.2.2.2.2.2.2.2.2.2.2.2.2.2.1,b.2.2.2.2.2.2.2.2.2.2.2.2.2.2.2.2.2.2.2.2.2.2.1,b.2.2.2.2.2.2.2.2.2.2.2.2.2.2.2.2.2.2.2.2.2.2.2.1,p0.2.2.2.1,b.2.2.2.2.2.2.2.2.2.2.2.2.2.2.2.2.2.2.2.2.2.2.2.2)))else(if g.1=(7:Int)then(Option.bind (cD U ((p0.1,((((p0.2.1.1.1,p0.2.1.1.2)),((p0.2.1.2.1.1,p0.2.1.2.1.2)),((p0.2.1.2.2.1.1,p0.2.1.2.2.1.2)),((p0.2.1.2.2.2.1.1,p0.2.1.2.2.2.1.2)),((p0.2.1.2.2.2.2.1.1,p0.2.1.2.2.2.2.1.2)),((p0.2.1.2.2.2.2.2.1.1,p0.2.1.2.2.2.2.2.1.2)),((p0.2.1.2.2.2.2.2.2.1.1,p0.2.1.2.2.2.2.2.2.1.2)),((p0.2.1.2.2.2.2.2.2.2.1.1,p0.2.1.2.2.2.2.2.2.2.1.2)),((p0.2.1.2.2.2.2.2.2.2.2.1.1,p0.2.1.2.2.2.2.2.2.2.2.1.2)),((p0.2.1.2.2.2.2.2.2.2.2.2.1.1,p0.2.1.2.2.2.2.2.2.2.2.2.1.2)),((p0.2.1.2.2.2.2.2.2.2.2.2.2.1,p0.2.1.2.2.2.2.2.2.2.2.2.2.2)))),p0.2.2.1,p0.2.2.2.1,p0.2.2.2.2)) ([((wI .i64 (h+(1:Int))),(wI .i64 (f - (1:Int)))),(g.2,(wI .i64 (f - (1:Int))))])) λc=>(some (c.1,c.2.1,c.2.2.1,c.2.2.2.1,c.2.2.2.2.1,c.2.2.2.2.2.1,c.2.2.2.2.2.2.1,c.2.2.2.2.2.2.2.1,c.2.2.2.2.2.2.2.2.1,c.2.2.2.2.2.2.2.2.2.1,c.2.2.2.2.2.2.2.2.2.2.1,c.2.2.2.2.2.2.2.2.2.2.2.1,c.2.2.2.2.2.2.2.2.2.2.2.2.1,c.2.2.2.2.2.2.2.2.2.2.2.2.2.1,c.2.2.2.2.2.2.2.2.2.2.2.2.2.2.1,c.2.2.2.2.2.2.2.2.2.2.2.2.2.2.2.1,c.2.2.2.2.2.2.2.2.2.2.2.2.2.2.2.2.1,c.2.2.2.2.2.2.2.2.2.2.2.2.2.2.2.2.2.1,c.2.2.2.2.2.2.2.2.2.2.2.2.2.2.2.2.2.2.1,c.2.2.2.2.2.2.2.2.2.2.2.2.2.2.2.2.2.2.2.1,c.2.2.2.2.2.2.2.2.2.2.2.2.2.2.2.2.2.2.2.2.1,c.2.2.2.2.2.2.2.2.2.2.2.2.2.2.2.2.2.2.2.2.2.1,c.2.2.2.2.2.2.2.2.2.2.2.2.2.2.2.2.2.2.2.2.2.2.1,c.2.2.2.2.2.2.2.2.2.2.2.2.2.2.2.2.2.2.2.2.2.2.2.1,p0.2.2.2.1,c.2.2.2.2.2.2.2.2.2.2.2.2.2.2.2.2.2.2.2.2.2.2.2.2)))else(if g.1=(8:Int)then(Option.bind (cD U ((p0.1,((((p0.2.1.1.1,p0.2.1.1.2)),((p0.2.1.2.1.1,p0.2.1.2.1.2)),((p0.2.1.2.2.1.1,p0.2.1.2.2.1.2)),((p0.2.1.2.2.2.1.1,p0.2.1.2.2.2.1.2)),((p0.2.1.2.2.2.2.1.1,p0.2.1.2.2.2.2.1.2)),((p0.2.1.2.2.2.2.2.1.1,p0.2.1.2.2.2.2.2.1.2)),((p0.2.1.2.2.2.2.2.2.1.1,p0.2.1.2.2.2.2.2.2.1.2)),((p0.2.1.2.2.2.2.2.2.2.1.1,p0.2.1.2.2.2.2.2.2.2.1.2)),((p0.2.1.2.2.2.2.2.2.2.2.1.1,p0.2.1.2.2.2.2.2.2.2.2.1.2)),((p0.2.1.2.2.2.2.2.2.2.2.2.1.1,p0.2.1.2.2.2.2.2.2.2.2.2.1.2)),((p0.2.1.2.2.2.2.2.2.2.2.2.2.1,p0.2.1.2.2.2.2.2.2.2.2.2.2.2)))),p0.2.2.1,p0.2.2.2.1,p0.2.2.2.2)) ([(g.2,f)])) λd=>(some (d.1,d.2.1,d.2.2.1,d.2.2.2.1,d.2.2.2.2.1,d.2.2.2.2.2.1,d.2.2.2.2.2.2.1,d.2.2.2.2.2.2.2.1,d.2.2.2.2.2.2.2.2.1,d.2.2.2.2.2.2.2.2.2.1,d.2.2.2.2.2.2.2.2.2.2.1,d.2.2.2.2.2.2.2.2.2.2.2.1,d.2.2.2.2.2.2.2.2.2.2.2.2.1,d.2.2.2.2.2.2.2.2.2.2.2.2.2.1,d.2.2.2.2.2.2.2.2.2.2.2.2.2.2.1,d.2.2.2.2.2.2.2.2.2.2.2.2.2.2.2.1,d.2.2.2.2.2.2.2.2.2.2.2.2.2.2.2.2.1,d.2.2.2.2.2.2.2.2.2.2.2.2.2.2.2.2.2.1,d.2.2.2.2.2.2.2.2.2.2.2.2.2.2.2.2.2.2.1,d.2.2.2.2.2.2.2.2.2.2.2.2.2.2.2.2.2.2.2.1,d.2.2.2.2.2.2.2.2.2.2.2.2.2.2.2.2.2.2.2.2.1,d.2.2.2.2.2.2.2.2.2.2.2.2.2.2.2.2.2.2.2.2.2.1,d.2.2.2.2.2.2.2.2.2.2.2.2.2.2.2.2.2.2.2.2.2.2.1,d.2.2.2.2.2.2.2.2.2.2.2.2.2.2.2.2.2.2.2.2.2.2.2.1,p0.2.2.2.1,d.2.2.2.2.2.2.2.2.2.2.2.2.2.2.2.2.2.2.2.2.2.2.2.2)))else(if g.1=(9:Int)then(ck ((p0.2.2.2.1.length:Int)+(List.length ([(h,g.2,f)]):Int)<=1099511627) (Option.bind (cD U ((p0.1,((((p0.2.1.1.1,p0.2.1.1.2)),((p0.2.1.2.1.1,p0.2.1.2.1.2)),((p0.2.1.2.2.1.1,p0.2.1.2.2.1.2)),((p0.2.1.2.2.2.1.1,p0.2.1.2.2.2.1.2)),((p0.2.1.2.2.2.2.1.1,p0.2.1.2.2.2.2.1.2)),((p0.2.1.2.2.2.2.2.1.1,p0.2.1.2.2.2.2.2.1.2)),((p0.2.1.2.2.2.2.2.2.1.1,p0.2.1.2.2.2.2.2.2.1.2)),((p0.2.1.2.2.2.2.2.2.2.1.1,p0.2.1.2.2.2.2.2.2.2.1.2)),((p0.2.1.2.2.2.2.2.2.2.2.1.1,p0.2.1.2.2.2.2.2.2.2.2.1.2)),((p0.2.1.2.2.2.2.2.2.2.2.2.1.1,p0.2.1.2.2.2.2.2.2.2.2.2.1.2)),((p0.2.1.2.2.2.2.2.2.2.2.2.2.1,p0.2.1.2.2.2.2.2.2.2.2.2.2.2)))),p0.2.2.1,(p0.2.2.2.1++([(h,g.2,f)])),p0.2.2.2.2)) ([((wI .i64 (h+(1:Int))),f),((wI .i64 (g.2+(1:Int))),(wI .i64 (f+(1:Int))))])) λe=>(some (e.1,e.2.1,e.2.2.1,e.2.2.2.1,e.2.2.2.2.1,e.2.2.2.2.2.1,e.2.2.2.2.2.2.1,e.2.2.2.2.2.2.2.1,e.2.2.2.2.2.2.2.2.1,e.2.2.2.2.2.2.2.2.2.1,e.2.2.2.2.2.2.2.2.2.2.1,e.2.2.2.2.2.2.2.2.2.2.2.1,e.2.2.2.2.2.2.2.2.2.2.2.2.1,e.2.2.2.2.2.2.2.2.2.2.2.2.2.1,e.2.2.2.2.2.2.2.2.2.2.2.2.2.2.1,e.2.2.2.2.2.2.2.2.2.2.2.2.2.2.2.1,e.2.2.2.2.2.2.2.2.2.2.2.2.2.2.2.2.1,e.2.2.2.2.2.2.2.2.2.2.2.2.2.2.2.2.2.1,e.2.2.2.2.2.2.2.2.2.2.2.2.2.2.2.2.2.2.1,e.2.2.2.2.2.2.2.2.2.2.2.2.2.2.2.2.2.2.2.1,e.2.2.2.2.2.2.2.2.2.2.2.2.2.2.2.2.2.2.2.2.1,e.2.2.2.2.2.2.2.2.2.2.2.2.2.2.2.2.2.2.2.2.2.1,e.2.2.2.2.2.2.2.2.2.2.2.2.2.2.2.2.2.2.2.2.2.2.1,e.2.2.2.2.2.2.2.2.2.2.2.2.2.2.2.2.2.2.2.2.2.2.2.1,(p0.2.2.2.1++([(h,g.2,f)])),e.2.2.2.2.2.2.2.2.2.2.2.2.2.2.2.2.2.2.2.2.2.2.2.2))))else(if g.1=(10:Int)then(ck (0<=(0:Int)/\(0:Int)<=(wI .i64 ((p0.2.2.2.1.length:Int) - (1:Int)))/\(wI .i64 ((p0.2.2.2.1.length:Int) - (1:Int)))<=(p0.2.2.2.1.length:Int)) (kU U p0 h f (List.take (Int.toNat (wI .i64 ((p0.2.2.2.1.length:Int) - (1:Int)))) p0.2.2.2.1)))else(kU U p0 h f (p0.2.2.2.1)))))))
def cR (p0:EJ) (b:Int) (a:dJ) (c:Int):V1 abP:=
 if a.1=(1:Int)then(cU U p0 b a c (decide (a.1=(1:Int))))else(if a.1=(2:Int)then(cU U p0 b a c (decide (a.1=(2:Int))))else(if a.1=(3:Int)then(cU U p0 b a c (decide (a.1=(3:Int))))else(cU U p0 b a c (decide (a.1=(4:Int))))))
theorem acW:aX prog 119:=call119
theorem FZ (U:Nat) {p0:EJ} {G:Int} {o:dJ} {n:Int} (p:Nat) (J O L:V0) (r:Int×Int×Int×Int×Int×Int×Int×Int×Int×Int×Int×Int×Int×Int×Int×Int×Int×Int×Int×Int×Int×Int×Int×bN×(List (Int×Int×Int))×Int) (h:cR U p0 G o n=some r):
  jT prog 119 #[vP p,vI (G),Value.agg #[vI (o.1),vI (o.2)],vI (n)] [bU p [J,vI (p0.2.1.1.1),vI (p0.2.1.1.2),vI (p0.2.1.2.1.1),vI (p0.2.1.2.1.2),vI (p0.2.1.2.2.1.1),vI (p0.2.1.2.2.1.2),vI (p0.2.1.2.2.2.1.1),vI (p0.2.1.2.2.2.1.2),vI (p0.2.1.2.2.2.2.1.1),vI (p0.2.1.2.2.2.2.1.2),vI (p0.2.1.2.2.2.2.2.1.1),vI (p0.2.1.2.2.2.2.2.1.2),vI (p0.2.1.2.2.2.2.2.2.1.1),vI (p0.2.1.2.2.2.2.2.2.1.2),vI (p0.2.1.2.2.2.2.2.2.2.1.1),vI (p0.2.1.2.2.2.2.2.2.2.1.2),vI (p0.2.1.2.2.2.2.2.2.2.2.1.1),vI (p0.2.1.2.2.2.2.2.2.2.2.1.2),vI (p0.2.1.2.2.2.2.2.2.2.2.2.1.1),vI (p0.2.1.2.2.2.2.2.2.2.2.2.1.2),vI (p0.2.1.2.2.2.2.2.2.2.2.2.2.1),vI (p0.2.1.2.2.2.2.2.2.2.2.2.2.2),O,L,vI (p0.2.2.2.2)] 139,Ar cK O p0.2.2.1,Ar e_ L p0.2.2.2.1] [Sl aS J p0.1] (λx:GI=>vI (r.1)) (λx l=>bU p [J,vI (r.2.1),vI (r.2.2.1),vI (r.2.2.2.1),vI (r.2.2.2.2.1),vI (r.2.2.2.2.2.1),vI (r.2.2.2.2.2.2.1),vI (r.2.2.2.2.2.2.2.1),vI (r.2.2.2.2.2.2.2.2.1),vI (r.2.2.2.2.2.2.2.2.2.1),vI (r.2.2.2.2.2.2.2.2.2.2.1),vI (r.2.2.2.2.2.2.2.2.2.2.2.1),vI (r.2.2.2.2.2.2.2.2.2.2.2.2.1),vI (r.2.2.2.2.2.2.2.2.2.2.2.2.2.1),vI (r.2.2.2.2.2.2.2.2.2.2.2.2.2.2.1),vI (r.2.2.2.2.2.2.2.2.2.2.2.2.2.2.2.1),vI (r.2.2.2.2.2.2.2.2.2.2.2.2.2.2.2.2.1),vI (r.2.2.2.2.2.2.2.2.2.2.2.2.2.2.2.2.2.1),vI (r.2.2.2.2.2.2.2.2.2.2.2.2.2.2.2.2.2.2.1),vI (r.2.2.2.2.2.2.2.2.2.2.2.2.2.2.2.2.2.2.2.1),vI (r.2.2.2.2.2.2.2.2.2.2.2.2.2.2.2.2.2.2.2.2.1),vI (r.2.2.2.2.2.2.2.2.2.2.2.2.2.2.2.2.2.2.2.2.2.1),vI (r.2.2.2.2.2.2.2.2.2.2.2.2.2.2.2.2.2.2.2.2.2.2.1),x.1,x.2,vI (r.2.2.2.2.2.2.2.2.2.2.2.2.2.2.2.2.2.2.2.2.2.2.2.2.2)] 139::Ar cK x.1 r.2.2.2.2.2.2.2.2.2.2.2.2.2.2.2.2.2.2.2.2.2.2.2.1::Ar e_ x.2 r.2.2.2.2.2.2.2.2.2.2.2.2.2.2.2.2.2.2.2.2.2.2.2.2.1::l):=by
 let F:=p0.2.2.1;let K:=(wI .i64 (o.2+(1:Int)))
 let d:=p0.2.1.1;let D:=Ar cK O F;let m:=p0.2.2.2;let H:=Ar e_ L m.1;let T:=(Int.toNat (wI .i64 ((m.1.length:Int) - (1:Int))))
 let k:=p0.2.1.2.1;let I:=(wI .i64 (n+(1:Int)))
 let E:=(wI .i64 (n - (1:Int)))
 let j:=(wI .i64 (G+(1:Int)))
 let g:=p0.2.1.2.2;let s:=g.2.1.2;let q:=g.2.1.1;let a:=g.2.2.1;let f:=g.2.2.2;let u:=f.2.1.2;let t:=f.2.1.1;let b:=f.2.2.1;let i:=f.2.2.2;let C:=i.2.2.2;let A:=i.2.2.1;let y:=i.2.1.2;let v:=i.2.1.1;let P:=bU p [J,vI (d.1),vI (d.2),vI (k.1),vI (k.2),vI (g.1.1),vI (g.1.2),vI (q),vI (s),vI (a.1),vI (a.2),vI (f.1.1),vI (f.1.2),vI (t),vI (u),vI (b.1),vI (b.2),vI (i.1.1),vI (i.1.2),vI (v),vI (y),vI (A),vI (C),O,L,vI (m.2)] 139;refine jT.of (vs:=[vP p,vI (G),Value.agg #[vI (o.1),vI (o.2)],vI (n)]) func119 Z ntmps119 Z λc=>?_;refine aT<|aK (aO.box (cs:=[vI (o.1),vI (o.2)]) Z Z) Z λb1=>let N:=bU b1 [vI (o.1),vI (o.2)] 85;aB Z<|aM<|aI<|xD (B:=V0) (λS=>kU U p0 G n S=some r) (λS R=>[(0,vP p),(1,vI (G)),(3,vI (n))]) (λS R=>[bU p [J,vI (d.1),vI (d.2),vI (k.1),vI (k.2),vI (g.1.1),vI (g.1.2),vI (q),vI (s),vI (a.1),vI (a.2),vI (f.1.1),vI (f.1.2),vI (t),vI (u),vI (b.1),vI (b.2),vI (i.1.1),vI (i.1.2),vI (v),vI (y),vI (A),vI (C),O,R,vI (m.2)] 139,D,Ar e_ R S]) (λS R=>[Sl aS J p0.1]) ?_ ?_
 .refine aT<|bD Z<|bY 0 Z<|aM<|aU<|aI<|xD (B:=Unit) (λM=>cU U p0 G o n M=some r) (λM V=>[(0,vP p),(1,vI (G)),(3,vI (n)),(6,vP b1),(10,vI (o.1)),(11,vB (M))]) (λM V=>[N,P,D,H]) (λM V=>[Sl aS J p0.1]) ?_ ?_
  .refine aT<|bP Z<|aB Z<|aM ?_;refine eF h Z (λh=>?_) λh=>?_
   .refine bK ?_;exact cF (decide (o.1=(1:Int))) () h SF Z
   refine aT<|bP Z<|aB Z<|aM ?_;refine eF h Z (λh=>?_) λh=>?_
   .refine bK ?_;exact cF (decide (o.1=(2:Int))) () h SF Z
   refine aT<|bP Z<|aB Z<|aM ?_;refine eF h Z (λh=>?_) λh=>?_
   .refine bK ?_;exact cF (decide (o.1=(3:Int))) () h SF Z
   refine aL<|bP Z<|aB Z<|aM ?_;exact cF (decide (o.1=(4:Int))) () h SF Z
  intro M V h;refine iA h Z (λ_ h=>?_) λ_ h=>?_
  .refine aT<|aA Z<|aA Z<|cP Z<|aA Z<|cP Z ?_;refine aC (nP (r:=Value.agg #[vI (wI .i64 (G+(1:Int))),vI (wI .i64 (n+(1:Int)))]) Z Z (by intro w;simp[Instr.build,Instr.fill,cL,b_,bW,cM,cN,cA,dD])) Z ?_;refine aK (fX (e:=cS) ([((j,I))]) [(0,Value.agg #[vI j,vI I])] Z Z Z Z (Hi (vI j) (vI I)) Z Z Z) Z λaa=>dG h λah am h=>aK (c_ (Min:=[P,D]) (Mr:=[Ar cS aa ([(j,I)]),N,H]) Jr (kL (p0:=((p0.1,((((d.1,d.2)),((k.1,k.2)),((g.1.1,g.1.2)),((q,s)),((a.1,a.2)),((f.1.1,f.1.2)),((t,u)),((b.1,b.2)),((i.1.1,i.1.2)),((v,y)),((A,C)))),F,m.1,m.2))) U p J O L aa ah am) Z (aW.ix [2,3,0,1,4] Z Z) (aE.cons (cG Z) (aE.cons (bL (aQ.res 2 Z) iX) (aE.cons (bL (aQ.res 0 Z) dL) .nil))) (λ_ _=>rfl)) Z λar=>aB Z<|aM<|aP<|bB<|aG ?_;cases h;exact mS (ar,L) Z Z (RV.tmp Z) (aW.ix [0,1,4] Z Z) aE.nil
  refine aT<|bP Z<|aB Z<|aM ?_;refine eF h Z (λh=>?_) λh=>?_
  .refine aT<|aA Z<|aA Z<|cP Z<|aA Z<|aC (kT Z Z) Z ?_;refine aC (nP (r:=Value.agg #[vI (wI .i64 (G+(1:Int))),vI (wI .i64 (n - (1:Int)))]) Z Z (by intro w;simp[Instr.build,Instr.fill,cL,b_,bW,cM,cN,cA,dD])) Z ?_;refine aK (fX (e:=cS) ([((j,E))]) [(0,Value.agg #[vI j,vI E])] Z Z Z Z (Hi (vI j) (vI E)) Z Z Z) Z λab=>dG h λai an h=>aK (c_ (Min:=[P,D]) (Mr:=[Ar cS ab ([(j,E)]),N,H]) Jr (kL (p0:=((p0.1,((((d.1,d.2)),((k.1,k.2)),((g.1.1,g.1.2)),((q,s)),((a.1,a.2)),((f.1.1,f.1.2)),((t,u)),((b.1,b.2)),((i.1.1,i.1.2)),((v,y)),((A,C)))),F,m.1,m.2))) U p J O L ab ai an) Z (aW.ix [2,3,0,1,4] Z Z) (aE.cons (cG Z) (aE.cons (bL (aQ.res 2 Z) iX) (aE.cons (bL (aQ.res 0 Z) dL) .nil))) (λ_ _=>rfl)) Z λau=>aB Z<|aM<|aP<|bB<|aG ?_;cases h;exact mS (au,L) Z Z (RV.tmp Z) (aW.ix [0,1,4] Z Z) aE.nil
  refine aT<|bP Z<|aB Z<|aM ?_;refine eF h Z (λh=>?_) λh=>?_
  .refine aT<|aA Z<|aA Z<|cP Z<|aA Z<|aC (kT Z Z) Z ?_;refine aC (nP (r:=Value.agg #[vI (wI .i64 (G+(1:Int))),vI (wI .i64 (n - (1:Int)))]) Z Z (by intro w;simp[Instr.build,Instr.fill,cL,b_,bW,cM,cN,cA,dD])) Z ?_;refine bD Z<|bY 0 Z<|aA Z<|aC (kT Z Z) Z ?_;refine aC (nP (r:=Value.agg #[vI (o.2),vI (wI .i64 (n - (1:Int)))]) Z Z (by intro w;simp[Instr.build,Instr.fill,cL,b_,bW,cM,cN,cA,dD])) Z ?_;refine aK (fX (e:=cS) ([((j,E)),((o.2,E))]) [(0,Value.agg #[vI j,vI E]),(1,Value.agg #[vI (o.2),vI E])] Z Z Z Z (TO (vI j) (vI E) (vI (o.2)) (vI E)) Z Z Z) Z λac=>dG h λaj ao h=>aK (c_ (Min:=[P,D]) (Mr:=[Ar cS ac ([(j,E),(o.2,E)]),N,H]) Jr (kL (p0:=((p0.1,((((d.1,d.2)),((k.1,k.2)),((g.1.1,g.1.2)),((q,s)),((a.1,a.2)),((f.1.1,f.1.2)),((t,u)),((b.1,b.2)),((i.1.1,i.1.2)),((v,y)),((A,C)))),F,m.1,m.2))) U p J O L ac aj ao) Z (aW.ix [2,3,0,1,4] Z Z) (aE.cons (cG Z) (aE.cons (bL (aQ.res 2 Z) iX) (aE.cons (bL (aQ.res 0 Z) dL) .nil))) (λ_ _=>rfl)) Z λav=>aB Z<|aM<|aP<|bB<|aG ?_;cases h;exact mS (av,L) Z Z (RV.tmp Z) (aW.ix [0,1,4] Z Z) aE.nil
  refine aT<|bP Z<|aB Z<|aM ?_;refine eF h Z (λh=>?_) λh=>?_
  .refine aT<|aA Z<|bD Z<|bY 0 Z<|aA Z ?_;refine aC (nP (r:=Value.agg #[vI (o.2),vI (n)]) Z Z (by intro w;simp[Instr.build,Instr.fill,cL,b_,bW,cM,cN,cA,dD])) Z ?_;refine aK (fX (e:=cS) ([((o.2,n))]) [(0,Value.agg #[vI (o.2),vI (n)])] Z Z Z Z (Hi (vI (o.2)) (vI (n))) Z Z Z) Z λad=>dG h λak ap h=>aK (c_ (Min:=[P,D]) (Mr:=[Ar cS ad ([(o.2,n)]),N,H]) Jr (kL (p0:=((p0.1,((((d.1,d.2)),((k.1,k.2)),((g.1.1,g.1.2)),((q,s)),((a.1,a.2)),((f.1.1,f.1.2)),((t,u)),((b.1,b.2)),((i.1.1,i.1.2)),((v,y)),((A,C)))),F,m.1,m.2))) U p J O L ad ak ap) Z (aW.ix [2,3,0,1,4] Z Z) (aE.cons (cG Z) (aE.cons (bL (aQ.res 2 Z) iX) (aE.cons (bL (aQ.res 0 Z) dL) .nil))) (λ_ _=>rfl)) Z λaw=>aB Z<|aM<|aP<|bB<|aG ?_;cases h;exact mS (aw,L) Z Z (RV.tmp Z) (aW.ix [0,1,4] Z Z) aE.nil
  refine aT<|bP Z<|aB Z<|aM ?_;refine eF h Z (λh=>?_) λh=>?_
  .refine aI ?_;refine xP [0,0,2,6,14,0,0,64,0,480,992,2046,4095,8191,16383] 12 mixedOrders ?_;refine bE Z<|bE Z<|iD Z (aV Z)<|dA Z<|iH 1 Z<|bE Z<|dA Z<|iH 0 Z<|bE Z ?_;refine iD Z (BF (r:=Value.agg #[vI (G),vI (o.2),vI (n)]) Z Z Z (by intro w;simp[Instr.build,Instr.fill,cL,b_,bW,cM,cN,cA,dD])) ?_;refine zBa Z Z Z (fX (e:=e_) ([((G,o.2,n))]) [(0,Value.agg #[vI (G),vI (o.2),vI (n)])] Z Z Z Z (aaG (vI (G)) (vI (o.2)) (vI (n))) Z Z Z) Z (λae=>(y_ [([2],[])] Z)) λae=>eX h λag h=>zBa Z Z Z (sF 4 iX Z Z Z (bL (aQ.res 0 Z) iX) Z Z Z Z ag Z) Z (λQ=>(y_ [] Z)) λQ=>bS 12 Z Z<|aC (aV Z) Z<|bD Z<|eH (Know.one ((bL (aQ.res 4 Z) iX))) λX=>i_ 2 Z Z X Z Z Z<|aM<|aT<|aA Z<|aA Z<|cP Z<|aA Z ?_;refine aC (nP (r:=Value.agg #[vI (wI .i64 (G+(1:Int))),vI (n)]) Z Z (by intro w;simp[Instr.build,Instr.fill,cL,b_,bW,cM,cN,cA,dD])) Z ?_;refine bD Z<|bY 1 Z<|cP Z<|aA Z<|cP Z ?_;refine aC (nP (r:=Value.agg #[vI (wI .i64 (o.2+(1:Int))),vI (wI .i64 (n+(1:Int)))]) Z Z (by intro w;simp[Instr.build,Instr.fill,cL,b_,bW,cM,cN,cA,dD])) Z ?_;refine aK (fX (e:=cS) ([((j,n)),((K,I))]) [(0,Value.agg #[vI j,vI (n)]),(1,Value.agg #[vI K,vI I])] Z Z Z Z (TO (vI j) (vI (n)) (vI K) (vI I)) Z Z Z) Z λaf=>dG h λal aq h=>aK (c_ (Min:=[bU p [J,vI (d.1),vI (d.2),vI (k.1),vI (k.2),vI (g.1.1),vI (g.1.2),vI (q),vI (s),vI (a.1),vI (a.2),vI (f.1.1),vI (f.1.2),vI (t),vI (u),vI (b.1),vI (b.2),vI (i.1.1),vI (i.1.2),vI (v),vI (y),vI (A),vI (C),O,Q,vI (m.2)] 139,D]) (Mr:=[Ar cS af ([(j,n),(K,I)]),Ar e_ ae ([(G,o.2,n)]),N,Ar e_ Q (m.1++([(G,o.2,n)]))]) Jr (kL (p0:=((p0.1,((((d.1,d.2)),((k.1,k.2)),((g.1.1,g.1.2)),((q,s)),((a.1,a.2)),((f.1.1,f.1.2)),((t,u)),((b.1,b.2)),((i.1.1,i.1.2)),((v,y)),((A,C)))),F,(m.1++([(G,o.2,n)])),m.2))) U p J O Q af al aq) Z (aW.ix [3,4,0,1,2,5] Z Z) (aE.cons (cG Z) (aE.cons (bL (aQ.res 3 Z) iX) (aE.cons (bL (aQ.res 0 Z) dL) .nil))) (λ_ _=>rfl)) Z λax=>aB Z<|aM<|aP<|bB<|aG ?_;cases h;exact mS (ax,Q) Z Z (RV.tmp Z) (aW.ix [0,1,5] Z Z) aE.nil
  refine aT<|bP Z<|aB Z<|aM ?_;refine eF h Z (λh=>?_) λh=>?_
  .refine xP [0,0,2,6,14,0,32,96,224,480,992,2046,4095,8191,16383] 12 mixedOrders ?_;refine bE Z<|bE Z<|iD Z (aV Z)<|dA Z<|iH 1 Z<|bE Z<|iD Z (aV Z)<|dA Z<|iH 1 Z<|bI Z (aW.cons 3 Z .nil) .nil (dO Z (bL (aQ.res 0 Z) iX) Z) aR.z<|iD Z (kT Z Z)<|eX h λW h=>bI Z (aW.cons 3 Z .nil) .nil (II Z Z (bL (aQ.res 0 Z) iX) Z Z W) aR.z<|bS 12 Z Z<|aC (aV Z) Z<|bD Z<|eH (Know.one ((aQ.part (bL (aQ.res 3 Z) iX) Z W))) λY=>i_ 1 Z Z Y Z Z Z<|dK<|jZ<|jY (HJ (sz:=3) 3 Z W) ?_;exact bQ (List.take T m.1) (Mw L (Int.toNat 0) T 3) h SF (aW.ix [1,2,3] Z Z) (aE.refl _ _)
  refine cZ<|jZ ?_;exact bQ (m.1) (L) h SF (aW.ix [1,2,3] Z Z) (aE.refl _ _)
 intro S R h;refine aT<|aA Z<|aA Z<|cP Z<|aA Z ?_;refine aC (nP (r:=Value.agg #[vI (wI .i64 (G+(1:Int))),vI (n)]) Z Z (by intro w;simp[Instr.build,Instr.fill,cL,b_,bW,cM,cN,cA,dD])) Z ?_;refine aK (fX (e:=cS) ([((j,n))]) [(0,Value.agg #[vI j,vI (n)])] Z Z Z Z (Hi (vI j) (vI (n))) Z Z Z) Z λu6=>dG h λr7 w8 h=>aK (c_ (Min:=[bU p [J,vI (d.1),vI (d.2),vI (k.1),vI (k.2),vI (g.1.1),vI (g.1.2),vI (q),vI (s),vI (a.1),vI (a.2),vI (f.1.1),vI (f.1.2),vI (t),vI (u),vI (b.1),vI (b.2),vI (i.1.1),vI (i.1.2),vI (v),vI (y),vI (A),vI (C),O,R,vI (m.2)] 139,D]) (Mr:=[Ar cS u6 ([(j,n)]),Ar e_ R S]) Jr (kL (p0:=((p0.1,((((d.1,d.2)),((k.1,k.2)),((g.1.1,g.1.2)),((q,s)),((a.1,a.2)),((f.1.1,f.1.2)),((t,u)),((b.1,b.2)),((i.1.1,i.1.2)),((v,y)),((A,C)))),F,S,m.2))) U p J O R u6 r7 w8) Z (aW.ix [1,2,0,3] Z Z) (aE.cons (cG Z) (aE.cons (bL (aQ.res 1 Z) iX) (aE.cons (bL (aQ.res 0 Z) dL) .nil))) (λ_ _=>rfl)) Z λx9=>aB Z<|aM<|aP ?_;cases h;exact mS (x9,R) Z Z (RV.tmp Z) (aW.ix [0,1,3] Z Z) aE.nil
end Go.Proofs.YtemmagadjnlajaaGreatDoor