/- Models and proofs. Conditions: none. -/
import Derived.Test.YtflciafboapaaaaGreatZRSp5
import Derived.Test.YtflciafboapaaaaGreatZRSp6
import Derived.Test.YtflciafboapaaaaGreatZRSp9
import Derived.Test.YtflciafboapaaaaGreatZRSp7
import Derived.Test.YtflciafboapaaaaGreatZRSp8
set_option linter.unusedVariables false
set_option linter.unusedSimpArgs false
set_option maxHeartbeats 4000000
set_option maxRecDepth 20000
namespace Go.Proofs.YtflciafboapaaaaGreat
open Go.Sx
def lL (a:Bool):Option Bool:=
 some (a)
def qV (U:Nat) (b:cJ) (a:DO):Option Bool:=
 Option.bind (iC U a.1 (1:Int) (4:Int)) λe=>(if e=true then(Option.bind (iC U a.2.1 (0:Int) (wI .i64 ((b.2.length:Int) - (1:Int)))) λc=>(if c=true then(if a.1=(1:Int)then(lL (true))else(ck (0<=a.2.1/\a.2.1<(b.2.length:Int)) (Option.bind (iC U a.2.2 (0:Int) (wI .i64 (((at' b.2 a.2.1).length:Int) - (1:Int)))) λd=>(lL (d)))))else(lL (false))))else(lL (false)))
theorem adj:bB Tryz.prog 69:=Tryz.call69
theorem JU (U:Nat) {j:cJ} {f:DO} (m n:V0) (y:kX) (r:Bool) (h:qV U j f=some r):
  bE Tryz.prog 69 #[Value.agg #[m,n],Value.agg #[vI (f.1),vI (f.2.1),vI (f.2.2)]] [Sl aM m j.1,S2 aY n y j.2] (λx:Unit=>vB (r)) (λx l=>l) (λ_ l=>l):=by
 refine bE.of Tryz.func69 Z Tryz.ntmps69 Z λc=>?_;refine aU<|aJ (aQ.box (cs:=[m,n]) Z Z) Z λz=>aJ (aQ.box (cs:=[vI (f.1),vI (f.2.1),vI (f.2.2)]) Z Z) Z λA=>aC Z<|aP<|aN<|eB (λg=>lL g=some r) (λg s=>[(4,vB (g))]) (λg s=>[]) ?_ ?_
 ·refine rP [0,1,3,7,15,31,15,79,207,463,1023,2047,4095,8191,16383,32767,65535,131071,262143,131071,655359,131071,2228223,7995391,16383999,33161215,66715647,134217727,268435455,536870911,1073741823] 27 mixedOrders ?_;refine cC Z<|eQ 0 Z<|eI h λt u h=>zBd Z Z Z (zBb uQ (jL U t u) Z .nil) Z (λw=>(nK [] Z)) λw=>eN Z (dG Z) ?_;refine JR.guard (by exact rfl) (by exact rfl) (by exact rfl) (λe=>?_) (λe=>?_)
  ·have h:=Hh e h;refine bW Z .nil .nil (cT Z Z Z Z Z) (uR Z)<|bW Z (a_.cons 0 Z .nil) .nil (dL 0 Z Z Z Z Z) (uR Z)<|bW Z .nil .nil (cT Z Z Z Z Z) (uR Z)<|bW Z (a_.cons 1 Z .nil) .nil (dL 0 Z Z Z Z Z) (uR Z)<|bW Z .nil (eV 1 Z) (dM Z (b_ Z) Z) (uR Z)<|bW Z .nil .nil (nI Z Z) (uR Z)<|eI h λk o h=>Dn Z Z Z Z (zBb uQ (jL U k o) Z .nil) Z (λq=>(nK [] Z)) λq=>eN Z (BP Z Z)<|eN Z (dG Z) ?_;refine JR.guard (by exact rfl) (by exact rfl) (by exact rfl) (λa=>?_) (λa=>?_)
   ·have h:=Hh a h;refine bW Z .nil .nil (cT Z Z Z Z Z) (uR Z)<|bW Z (a_.cons 0 Z .nil) .nil (dL 0 Z Z Z Z Z) (uR Z)<|bW Z .nil .nil (Lu Z Z) (uR Z)<|bW Z .nil .nil (dG Z) (uR Z) ?_;refine vX (by exact rfl) (by exact rfl) (by exact rfl) (λb=>?_) (λb=>?_)
    ·have h:=Hh b h;refine aK Z Z Z Z<|aK Z Z Z Z<|aK Z Z Z Z<|aK Z Z Z Z<|aK Z Z Z Z<|aK Z Z Z Z<|aK Z Z Z Z<|aK Z Z Z Z<|aK Z Z Z Z<|aK Z Z Z Z<|bN 27 Z Z<|aO Z<|aW Z (BP Z Z) Z<|d_ Z<|aC Z<|aP ?_;exact cB (true) () h SF .nil (aH.refl _ _)
    have h:=VK b h;refine bW Z .nil .nil (cT Z Z Z Z Z) (uR Z)<|bW Z (a_.cons 0 Z .nil) .nil (dL 0 Z Z Z Z Z) (uR Z)<|bW Z .nil .nil (cT Z Z Z Z Z) (uR Z)<|bW Z (a_.cons 1 Z .nil) .nil (dL 0 Z Z Z Z Z) (uR Z)<|bW Z .nil .nil (cT Z Z Z Z Z) (uR Z)<|bW Z (a_.cons 0 Z .nil) .nil (dL 0 Z Z Z Z Z) (uR Z)<|cQ h λd h=>bW Z .nil (eV 1 Z) (bK Z Z (b_ Z) Z Z d) (uR Z)<|bW Z .nil (eV 1 Z) (bS Z (b_ Z) Z Z d) (uR Z)<|bW Z .nil (eV 1 Z) (fH Z (zBc (b_ Z) d.1 d.2) Z) (uR Z)<|bW Z .nil .nil (nI Z Z) (uR Z)<|bN 27 Z Z<|eI h λi p h=>oU Z (zBb uQ (jL U i p) Z .nil) Z λv=>aW Z (rY Z Z) Z<|d_ Z<|aC Z<|aP ?_;exact cB (i) () h SF .nil (aH.refl _ _)
   have h:=En a h;refine aK Z Z Z Z<|aK Z Z Z Z<|aK Z Z Z Z<|aK Z Z Z Z<|y_ (h:= ?_);refine y_ (h:= ?_);refine y_ (h:= ?_);refine y_ (h:= ?_);refine y_ (h:= ?_);refine y_ (h:= ?_);refine y_ (h:= ?_);refine y_ (h:= ?_);refine y_ (h:= ?_);refine y_ (h:= ?_);refine bN 27 Z Z<|aeB (h:= ?_);refine aO Z<|eR Z<|aC Z<|aP ?_;exact cB (false) () h SF .nil (aH.refl _ _)
  have h:=En e h;refine aK Z Z Z Z<|aK Z Z Z Z<|aK Z Z Z Z<|aK Z Z Z Z<|aK Z Z Z Z<|aK Z Z Z Z<|aK Z Z Z Z<|eN Z (rY Z Z)<|eN Z (dG Z)<|aK Z Z Z Z<|aK Z Z Z Z<|aK Z Z Z Z<|aK Z Z Z Z<|y_ (h:= ?_);refine y_ (h:= ?_);refine y_ (h:= ?_);refine y_ (h:= ?_);refine y_ (h:= ?_);refine y_ (h:= ?_);refine y_ (h:= ?_);refine y_ (h:= ?_);refine y_ (h:= ?_);refine y_ (h:= ?_);refine bN 27 Z Z<|aeB (h:= ?_);refine aO Z<|eR Z<|aC Z<|aP ?_;exact cB (false) () h SF .nil (aH.refl _ _)
 intro g s h;unfold lL at h;refine aS ?_;cases h;exact iR Z
def yJ (b:cJ) (a:Int) (c:Bool):Option (Int):=
 if c=true then(some (0:Int))else(ck (0<=a/\a<(b.2.length:Int)) (some ((at' b.2 a).length:Int)))
def Ac (U:Nat) (a:cJ) (b:Int):Option (Int):=
 Option.bind (lE U ((a.1,a.2))) λd=>(if(!d)=true then(yJ a b (true))else(Option.bind (iC U b (0:Int) (wI .i64 ((a.2.length:Int) - (1:Int)))) λc=>(yJ a b ((!c)))))
theorem aan:bB Tryz.prog 171:=Tryz.call171
theorem Mo (U:Nat) {i:cJ} {j:Int} (e f:V0) (o:kX) (r:Int) (h:Ac U i j=some r):
  bE Tryz.prog 171 #[Value.agg #[e,f],vI (j)] [Sl aM e i.1,S2 aY f o i.2] (λx:Unit=>vI (r)) (λx l=>l) (λ_ l=>l):=by
 refine bE.of Tryz.func171 Z Tryz.ntmps171 Z λc=>?_;refine aU<|aJ (aQ.box (cs:=[e,f]) Z Z) Z λm=>aC Z<|aP<|aN<|aN<|eB (λb=>yJ i j b=some r) (λb n=>[(1,vI (j)),(2,vP m),(16,vB (b))]) (λb n=>[bM m [e,f] 31]) ?_ ?_
 ·refine aR<|cM 0 Z<|eI h λp q h=>aJ (zBb Xr (HN U e f o p q) Z (iB [0,1] Z)) Z λt=>aB (jG Z) Z<|aA Z ?_;refine vW (by exact rfl) (by exact rfl) (λa=>?_) (λa=>?_)
  ·have h:=Hh a h;refine aO Z<|aO Z<|aO Z<|aO Z<|aO Z<|aO Z<|aO Z<|d_ Z<|aP ?_;exact f_ (true) () h SF Z
  have h:=En a h;refine dD Z<|aW Z (cT Z Z Z Z Z) Z<|aW Z (dL 0 Z Z Z Z Z) Z<|aW Z (dM Z (mR Z) Z) Z<|aW Z (nI Z Z) Z<|eI h λd k h=>oU Z (zBb uQ (jL U d k) Z .nil) Z λs=>aW Z (jG Z) Z<|eR Z<|aP ?_;exact f_ ((!d)) () h SF Z
 intro b n h;refine rR h Z (λ_ h=>?_) λ_ h=>?_
 ·refine aU<|aC Z<|aP<|aS<|aG ?_;cases h;exact mO Z
 refine cL<|aU<|bV Z<|dK 0 Z<|aA Z<|cQ h λg h=>aB (bK Z Z (mR Z) Z Z g) Z<|aB (bS Z (mR Z) Z Z g) Z<|aB (fH Z (zBc (mR Z) g.1 g.2) Z) Z<|aC Z<|aP<|aS ?_;cases h;exact mO Z
def Ab (U:Nat) (a:cJ) (b c:Int):Option (Int):=
 Option.bind (Ac U ((a.1,a.2)) b) λe=>(Option.bind (iC U c (0:Int) (wI .i64 (e - (1:Int)))) λf=>(if(!f)=true then(some (-1:Int))else(ck (0<=b/\b<(a.2.length:Int)) (ck (0<=c/\c<((at' a.2 b).length:Int)) (Option.bind (sB U ((a.1,a.2)) ((at' (at' a.2 b) c).1) b) λd=>(some (d)))))))
theorem aab:bB Tryz.prog 114:=Tryz.call114
theorem PE (U:Nat) {f:cJ} {k m:Int} (d e:V0) (j:kX) (r:Int) (h:Ab U f k m=some r):
  bE Tryz.prog 114 #[Value.agg #[d,e],vI (k),vI (m)] [Sl aM d f.1,S2 aY e j f.2] (λx:Unit=>vI (r)) (λx l=>l) (λ_ l=>l):=by
 refine bE.of Tryz.func114 Z Tryz.ntmps114 Z λc=>?_;refine aU<|aJ (aQ.box (cs:=[d,e]) Z Z) Z λt=>aC Z<|aP<|aN<|aU<|aA Z<|cM 0 Z<|aA Z<|eI h λn p h=>aJ (zBb aan (Mo U d e j n p) Z (iB [0,1] Z)) Z λu=>aB (nI Z Z) Z<|eI h λo q h=>aJ (zBb uQ (jL U o q) Z .nil) Z λv=>aB (jG Z) Z<|aP ?_;refine rR h Z (λ_ h=>?_) λ_ h=>?_
 ·refine aU<|aC Z<|aP<|aS<|aG ?_;cases h;exact mO Z
 refine cL<|aN ?_;refine rP [0,0,2,0,14,30,0,126,254,510,0,2047,4095] 11 mixedOrders ?_;refine jA 0 Z<|cC Z<|eQ 0 Z<|aV Z<|cQ h λa h=>bA Z .nil (eV 1 Z) (bK Z Z (b_ Z) Z Z a) aL.z<|bA Z .nil (eV 1 Z) (bS Z (b_ Z) Z Z a) aL.z<|aV Z<|cQ h λb h=>bA Z .nil (eV 1 Z) (bG Z Z (zBc (b_ Z) a.1 a.2) Z Z b) aL.z<|eN Z (dC Z Z Z Z Z)<|bA Z .nil (eV 1 Z) (eL Z (zBc (b_ Z) a.1 a.2) Z Z Z gA b) aL.z<|aV Z<|bN 11 Z Z<|eI h λg i h=>aJ (zBb OE (FN U d e j g i) Z (iB [0,1] Z)) Z λs=>aC Z<|aP<|aS ?_;cases h;exact mO Z
def De (a:gX):Option kW:=
 some (((a.1,a.2.1,a.2.2)),(0:Int))
def pS (c:Bm) (b:Bl->Option kW) (a:bQ×List (List bQ)×List bQ):Option kW:=
 b ((wI .i64 (c.1+(1:Int))),a.1,a.2.2,a.2.1)
def Aw (a:Bm) (b:Bl->Option kW) (c:bQ):Option kW:=
 pS a b (c,a.2.2.2,a.2.2.1)
def FG (U:Nat) (f:fE) (g:cJ) (d:rU) (a:Bm) (b:Bl->Option kW) (e:bQ):Option kW:=
 Option.bind (Af U ((f.1,f.2.1,f.2.2)) ((g.1,g.2)) e ((at' d a.1).2.1)) λc=>(if c.2=(0:Int)then(ck (0<=((at' d a.1).2.1)/\((at' d a.1).2.1)<(a.2.1.length:Int)) (Aw a b (List.set a.2.1 (Int.toNat ((at' d a.1).2.1)) c.1)))else(Aw a b (a.2.1)))
def Ax (U:Nat) (d:fE) (e:cJ) (f:rU) (b:Bm) (a:Bl->Option kW) (c:bQ):Option kW:=
 FG U d e f b a (c)
def Az (U:Nat) (g:fE) (d:cJ) (c:rU) (b:Bm) (f:Bl->Option kW) (a:Int×bQ) (e:(Int×bQ)->Option kW):Option kW:=
 ck (0<=((at' c b.1).2.1)/\((at' c b.1).2.1)<(d.2.length:Int)) (if a.1<((at' d.2 ((at' c b.1).2.1)).length:Int)then(ck (0<=((at' c b.1).2.1)/\((at' c b.1).2.1)<(d.2.length:Int)) (ck (0<=a.1/\a.1<((at' d.2 ((at' c b.1).2.1)).length:Int)) (ck (0<=((at' c b.1).2.1)/\((at' c b.1).2.1)<(b.2.2.1.length:Int)) (ck (0<=a.1/\a.1<((at' b.2.2.1 ((at' c b.1).2.1)).length:Int)) (ck ((List.length ([]:bT):Int)+((at' (at' b.2.2.1 ((at' c b.1).2.1)) a.1).length:Int)<=1099511627) (ck (0<=((at' (at' d.2 ((at' c b.1).2.1)) a.1).1)/\((at' (at' d.2 ((at' c b.1).2.1)) a.1).1)<(a.2.length:Int)) (e ((wI .i64 (a.1+(1:Int))),(List.set a.2 (Int.toNat ((at' (at' d.2 ((at' c b.1).2.1)) a.1).1)) (([]:bT)++(at' (at' b.2.2.1 ((at' c b.1).2.1)) a.1)))))))))))else(Ax U g d c b f (a.2)))
def Ay (a:Bm) (c:Bl->Option kW) (b:CW):Option kW:=
 pS a c (a.2.1,b,a.2.2.1)
def xS (d:cJ) (c:rU) (a:Bm) (f:Bl->Option kW) (b:Int) (e:rV):Option kW:=
 ck (0<=((at' (at' d.2 ((at' c a.1).2.1)) ((at' c a.1).2.2)).1)/\((at' (at' d.2 ((at' c a.1).2.1)) ((at' c a.1).2.2)).1)<(a.2.2.2.length:Int)) (ck (0<=((at' (at' d.2 ((at' c a.1).2.1)) ((at' c a.1).2.2)).1)/\((at' (at' d.2 ((at' c a.1).2.1)) ((at' c a.1).2.2)).1)<(a.2.2.2.length:Int)) (ck (0<=b/\b<((at' a.2.2.2 ((at' (at' d.2 ((at' c a.1).2.1)) ((at' c a.1).2.2)).1)).length:Int)) (ck (0<=(1:Int)/\(1:Int)<=((at' (at' a.2.2.2 ((at' (at' d.2 ((at' c a.1).2.1)) ((at' c a.1).2.2)).1)) b).length:Int)) (ck (0<=b/\b<((at' a.2.2.2 ((at' (at' d.2 ((at' c a.1).2.1)) ((at' c a.1).2.2)).1)).length:Int)) (pS a f (a.2.1,(List.set a.2.2.2 (Int.toNat ((at' (at' d.2 ((at' c a.1).2.1)) ((at' c a.1).2.2)).1)) (List.set (at' a.2.2.2 ((at' (at' d.2 ((at' c a.1).2.1)) ((at' c a.1).2.2)).1)) (Int.toNat b) (List.drop (Int.toNat (1:Int)) (at' (at' a.2.2.2 ((at' (at' d.2 ((at' c a.1).2.1)) ((at' c a.1).2.2)).1)) b)))),e))))))
def jR (U:Nat) (g:fE) (e:cJ) (h:Int) (b:rU) (a:Bm) (d:Bl->Option kW):Option kW:=
 if a.1<(b.length:Int)then(ck (0<=a.1/\a.1<(b.length:Int)) (if((at' b a.1).1)=(1:Int)then(Option.bind (mE U a.2.1) λf=>(bL (Az U g e b a d) U ((0:Int),f)))else(if((at' b a.1).1)=(2:Int)then(ck (0<=((at' b a.1).2.1)/\((at' b a.1).2.1)<(a.2.2.2.length:Int)) (ck (0<=((at' b a.1).2.2)/\((at' b a.1).2.2)<((at' a.2.2.2 ((at' b a.1).2.1)).length:Int)) (if((at' (at' a.2.2.2 ((at' b a.1).2.1)) ((at' b a.1).2.2)).length:Int)<h then(ck (0<=((at' b a.1).2.1)/\((at' b a.1).2.1)<(a.2.2.2.length:Int)) (ck (0<=((at' b a.1).2.1)/\((at' b a.1).2.1)<(a.2.2.2.length:Int)) (ck (0<=((at' b a.1).2.2)/\((at' b a.1).2.2)<((at' a.2.2.2 ((at' b a.1).2.1)).length:Int)) (ck (0<=((at' b a.1).2.1)/\((at' b a.1).2.1)<(a.2.1.length:Int)) (ck ((List.length ([]:bT):Int)+((at' a.2.1 ((at' b a.1).2.1)).length:Int)<=1099511627) (ck (((at' (at' a.2.2.2 ((at' b a.1).2.1)) ((at' b a.1).2.2)).length:Int)+(List.length ([(([]:bT)++(at' a.2.1 ((at' b a.1).2.1)))]):Int)<=1099511627) (ck (0<=((at' b a.1).2.2)/\((at' b a.1).2.2)<((at' a.2.2.2 ((at' b a.1).2.1)).length:Int)) (Ay a d (List.set a.2.2.2 (Int.toNat ((at' b a.1).2.1)) (List.set (at' a.2.2.2 ((at' b a.1).2.1)) (Int.toNat ((at' b a.1).2.2)) ((at' (at' a.2.2.2 ((at' b a.1).2.1)) ((at' b a.1).2.2))++([(([]:bT)++(at' a.2.1 ((at' b a.1).2.1)))]))))))))))))else(Ay a d (a.2.2.2)))))else(ck (0<=((at' b a.1).2.1)/\((at' b a.1).2.1)<(e.2.length:Int)) (ck (0<=((at' b a.1).2.2)/\((at' b a.1).2.2)<((at' e.2 ((at' b a.1).2.1)).length:Int)) (Option.bind (Ab U ((e.1,e.2)) ((at' b a.1).2.1) ((at' b a.1).2.2)) λc=>(ck (0<=((at' (at' e.2 ((at' b a.1).2.1)) ((at' b a.1).2.2)).1)/\((at' (at' e.2 ((at' b a.1).2.1)) ((at' b a.1).2.2)).1)<(a.2.2.2.length:Int)) (ck (0<=c/\c<((at' a.2.2.2 ((at' (at' e.2 ((at' b a.1).2.1)) ((at' b a.1).2.2)).1)).length:Int)) (if(0:Int)<((at' (at' a.2.2.2 ((at' (at' e.2 ((at' b a.1).2.1)) ((at' b a.1).2.2)).1)) c).length:Int)then(if((at' b a.1).1)=(3:Int)then(ck (0<=((at' b a.1).2.1)/\((at' b a.1).2.1)<(a.2.2.1.length:Int)) (ck (0<=((at' (at' e.2 ((at' b a.1).2.1)) ((at' b a.1).2.2)).1)/\((at' (at' e.2 ((at' b a.1).2.1)) ((at' b a.1).2.2)).1)<(a.2.2.2.length:Int)) (ck (0<=c/\c<((at' a.2.2.2 ((at' (at' e.2 ((at' b a.1).2.1)) ((at' b a.1).2.2)).1)).length:Int)) (ck (0<=(0:Int)/\(0:Int)<((at' (at' a.2.2.2 ((at' (at' e.2 ((at' b a.1).2.1)) ((at' b a.1).2.2)).1)) c).length:Int)) (ck (0<=((at' b a.1).2.2)/\((at' b a.1).2.2)<((at' a.2.2.1 ((at' b a.1).2.1)).length:Int)) (xS e b a d c (List.set a.2.2.1 (Int.toNat ((at' b a.1).2.1)) (List.set (at' a.2.2.1 ((at' b a.1).2.1)) (Int.toNat ((at' b a.1).2.2)) (at' (at' (at' a.2.2.2 ((at' (at' e.2 ((at' b a.1).2.1)) ((at' b a.1).2.2)).1)) c) (0:Int))))))))))else(xS e b a d c (a.2.2.1)))else(pS a d (a.2.1,a.2.2.2,a.2.2.1)))))))))))else(De (a.2.1,a.2.2.1,a.2.2.2))
def Dd (U:Nat) (b:fE) (c:cJ) (d:Int) (e:rU) (a:gX):Option kW:=
 bL (jR U b c d e) U ((0:Int),a.1,a.2.1,a.2.2)
def xT (U:Nat) (c:fE) (d:cJ) (e:Int) (f:rU) (b:bQ) (a:List bQ×List (List bQ)):Option kW:=
 Dd U c d e f (b,a.1,a.2)
def Ev (a:NY) (c:NX->Option kW) (d:bQ) (b:rV):Option kW:=
 ck ((a.2.2.length:Int)+(List.length ([b]):Int)<=1099511627) (c ((wI .i64 (a.1+(1:Int))),(a.2.1++[d]),(a.2.2++[b])))
def AA (U:Nat) (f:gX) (a:NY) (d:NX->Option kW) (g:bQ) (b:List bQ×Int) (e:(List bQ×Int)->Option kW):Option kW:=
 ck (0<=a.1/\a.1<(f.2.2.length:Int)) (if b.2<((at' f.2.2 a.1).length:Int)then(ck (0<=a.1/\a.1<(f.2.2.length:Int)) (ck (0<=b.2/\b.2<((at' f.2.2 a.1).length:Int)) (Option.bind (mE U (at' (at' f.2.2 a.1) b.2)) λc=>(ck ((b.1.length:Int)+(List.length ([c]):Int)<=1099511627) (e ((b.1++[c]),(wI .i64 (b.2+(1:Int)))))))))else(Ev a d g (b.1)))
def sG (U:Nat) (f:fE) (g:cJ) (h:Int) (e:gX) (i:rU) (d:bQ) (a:NY) (c:NX->Option kW):Option kW:=
 if a.1<(e.2.1.length:Int)then(ck (0<=a.1/\a.1<(e.2.1.length:Int)) (Option.bind (mE U (at' e.2.1 a.1)) λb=>(ck ((a.2.1.length:Int)+(List.length ([b]):Int)<=1099511627) (bL (AA U e a c b) U (([]:rV),(0:Int))))))else(xT U f g h i d (a.2.1,a.2.2))
def sF (U:Nat) (d:fE) (e:cJ) (f:Int) (c:gX) (g:rU) (a:Int):Option kW:=
 if a≠(0:Int)then(some (((([]:bQ),(([]:rV)),(([]:CW)))),a))else(Option.bind (mE U c.1) λb=>(bL (sG U d e f c g b) U ((0:Int),([]:rV),([]:CW))))
def xU (b:fF) (a:fW->Option kW) (c:Int):Option kW:=
 a (c,(wI .i64 (b.2+(1:Int))))
def p_ (U:Nat) (g:fE) (f:cJ) (h:Int) (i:gX) (d:rU) (a:fF) (b:fW->Option kW) (c:Bool):Option kW:=
 if c=true then(ck (0<=a.2/\a.2<(d.length:Int)) (Option.bind (qV U ((f.1,f.2)) ((((at' d a.2).1),((at' d a.2).2.1),((at' d a.2).2.2)))) λe=>(if(!e)=true then(xU a b (2:Int))else(xU a b (a.1)))))else(sF U g f h i d (a.1))
def jE (U:Nat) (d:fE) (e:cJ) (f:Int) (g:gX) (c:rU) (a:fF) (b:fW->Option kW):Option kW:=
 if a.2<(c.length:Int)then(p_ U d e f g c a b (decide (a.1=(0:Int))))else(p_ U d e f g c a b (false))
def sE (U:Nat) (b:fE) (c:cJ) (d:Int) (e:gX) (f:rU) (a:Int):Option kW:=
 bL (jE U b c d e f) U (a,(0:Int))
def Ch (U:Nat) (b:fE) (c:cJ) (d:Int) (e:gX) (f:rU) (g:Int) (a:Bool):Option kW:=
 if a=true then(sE U b c d e f (3:Int))else(sE U b c d e f (g))
def Cw (U:Nat) (a:fE) (c:cJ) (d:Int) (b:gX) (e:rU):Option kW:=
 Option.bind (xL U ((a.1,a.2.1,a.2.2)) ((c.1,c.2)) d ((b.1,b.2.1,b.2.2))) λf=>(if f=(0:Int)then(Ch U a c d b e f (decide ((65536:Int)<(e.length:Int))))else(Ch U a c d b e f (false)))
theorem acZ:bB Tryz.prog 27:=Tryz.call27
theorem Rt (U:Nat) {p0:fE} {D:cJ} {p2:Int} {p3:gX} {b:rU} (v0 v1 v2 v3:V0) (z4:kX) (v5:V0) (z6:nG) (v7:V0) (z8:CV) (v9:V0) (de:CU) (J:V0) (r:UP) (h:Cw U p0 D p2 p3 b=some r):
  bE Tryz.prog 27 #[Value.agg #[vS (p0.1),v0,v1],Value.agg #[v2,v3],vI (p2),Value.agg #[v5,v7,v9],J] [Sl aE v0 p0.2.1,Sl aD v1 p0.2.2,PF (Value.agg #[vS p0.1,v0,v1]),Sl aM v2 D.1,S2 aY v3 z4 D.2,S2 aM v5 z6 p3.1,S3 aM v7 z8 p3.2.1,S4 aM v9 de p3.2.2,Sl dY J b] (λx:Rx=>Value.tuple #[Value.agg #[x.1,x.2.2.1,x.2.2.2.2.1],vI (r.2)]) (λx l=>l) (λx l=>S2 aM x.1 x.2.1 r.1.1::S3 aM x.2.2.1 x.2.2.2.1 r.1.2.1::S4 aM x.2.2.2.2.1 x.2.2.2.2.2 r.1.2.2::l):=by
 let b9:=(tg 1 ([]:Bp))
 let db:=(jE U p0 D p2 p3 b)
 let b7:=(List (List V0))
 let O:=Sl aD v1 p0.2.2;let N:=Sl aE v0 p0.2.1;let M:=S2 aM v5 z6 p3.1;let L:=S2 aY v3 z4 D.2;let ao:=S3 aM v7 z8 p3.2.1;let an:=S4 aM v9 de p3.2.2;let al:=PF (Value.agg #[vS p0.1,v0,v1]);refine bE.of Tryz.func27 Z Tryz.ntmps27 Z λc=>?_;refine aU<|aJ (aQ.box (cs:=[vS (p0.1),v0,v1]) Z Z) Z λb1=>let T:=bM b1 [vS (p0.1),v0,v1] 36;aJ (aQ.box (cs:=[v2,v3]) Z Z) Z λb2=>let V:=bM b2 [v2,v3] 31;aJ (aQ.box (cs:=[v5,v7,v9]) Z Z) Z λb3=>let ab:=bM b3 [v5,v7,v9] 43;aJ (aQ.alloc (cs:=[cW,cW,cW]) Z Z) Z λb4=>let S:=bM b4 [cW,cW,cW] 43;aC Z<|aP<|aU<|cM 3 Z<|cM 2 Z<|aA Z<|cM 1 Z<|eI h λr5 w6 h=>aJ (zBb adi (Nc U v0 v1 v2 v3 z4 v5 z6 v7 z8 v9 de r5 w6) Z (iB [0,1,2,3,4,5,6,7] Z)) Z λx7=>aC Z<|aP<|aN<|eB (λa9=>sE U p0 D p2 p3 b a9=some r) (λa9 e6=>[(2,vI (p2)),(4,J),(5,vP b1),(6,vP b2),(8,vP b3),(10,vP b4),(12,vI (a9))]) (λa9 e6=>[S,ab,V,T]) ?_ ?_
 ·refine aN<|eB (λbj=>Ch U p0 D p2 p3 b r5 bj=some r) (λbj di=>[(2,vI (p2)),(4,J),(5,vP b1),(6,vP b2),(8,vP b3),(10,vP b4),(12,vI (r5)),(26,vB (bj))]) (λbj di=>[S,ab,V,T]) ?_ ?_
  ·refine aR<|aA Z<|cH Z<|aA Z ?_;refine Ds h Z (λ_ h=>?_) λ_ h=>?_
   ·refine dD Z<|aW Z (fH Z (QI Z) Z) Z<|aW Z (wY Z Z) Z<|d_ Z<|aP ?_;exact f_ (decide ((65536:Int)<(b.length:Int))) () h SF Z
   refine aO Z<|aO Z<|aO Z<|eR Z<|aP ?_;exact f_ (false) () h SF Z
  intro bj di h;refine rR h Z (λ_ h=>?_) λ_ h=>?_
  ·refine aR<|aC Z<|aP ?_;exact f_ (3:Int) () h SF Z
  refine cL ?_;exact f_ (r5) () h SF Z
 intro a9 e6 h;unfold sE at h;refine aN<|eB (λce=>sF U p0 D p2 p3 b ce=some r) (λce e7=>[(2,vI (p2)),(4,J),(5,vP b1),(6,vP b2),(8,vP b3),(10,vP b4),(12,vI (ce))]) (λce e7=>[S,ab,V,T]) ?_ ?_
 ·refine aU<|aC Z<|aP<|aT<|eW db (λF df=>[(2,vI (p2)),(4,J),(5,vP b1),(6,vP b2),(8,vP b3),(10,vP b4),(12,vI (F.1)),(13,vI (F.2))]) (λF df=>[S,ab,V,T]) (a9,(0:Int)) () h SF (a_.refl _) ?_;intro du F df h;refine aN<|aN<|eB (λbi=>p_ U p0 D p2 p3 b F (bL db du) bi=some r) (λbi dg=>[(2,vI (p2)),(4,J),(5,vP b1),(6,vP b2),(8,vP b3),(10,vP b4),(12,vI (F.1)),(13,vI (F.2)),(34,vB (bi))]) (λbi dg=>[S,ab,V,T]) ?_ ?_
  ·refine aR<|aA Z<|aA Z<|iL (QI Z) Z<|cU Z<|aA Z ?_;refine Ds h Z (λ_ h=>?_) λ_ h=>?_
   ·refine dD Z<|aW Z (Lu Z Z) Z<|d_ Z<|aP ?_;exact f_ (decide (F.1=(0:Int))) () h SF Z
   refine aO Z<|aO Z<|eR Z<|aP ?_;exact f_ (false) () h SF Z
  intro bi dg h;refine rR h Z (λ_ h=>?_) λ_ h=>?_
  ·refine cL<|aN<|eB (λa6=>xU F (bL db du) a6=some r) (λa6 dh=>[(2,vI (p2)),(4,J),(5,vP b1),(6,vP b2),(8,vP b3),(10,vP b4),(12,vI (a6)),(13,vI (F.2))]) (λa6 dh=>[S,ab,V,T]) ?_ ?_
   ·refine aT<|aN ?_;refine rP [0,0,0,6,14,31,63] 5 mixedOrders ?_;refine jA 2 Z<|aV Z<|aV Z<|cQ h λds h=>bA Z .nil (eV 8 Z) (bG Z Z (b_ Z) Z Z ds) aL.z<|bA Z .nil (eV 8 Z) (gS (cs:=[vI ((at' b F.2).1),vI ((at' b F.2).2.1),vI ((at' b F.2).2.2)]) Z (b_ Z) Cq Z Z Z Z ds) aL.z<|bN 5 Z Z<|eI h λfl fz h=>aJ (zBb adj (JU U v2 v3 z4 fl fz) Z (iB [3,4] Z)) Z λf1=>aB (jG Z) Z<|aP ?_;refine rR h Z (λ_ h=>?_) λ_ h=>?_
    ·refine aR<|aC Z<|eS<|lA ?_;exact f_ (2:Int) () h SF Z
    refine dW<|lA ?_;exact f_ (F.1) () h SF Z
   intro a6 dh h;unfold xU at h;refine aR<|aA Z<|cN Z<|aC Z<|aP ?_;exact xD (a6,(wI .i64 (F.2+(1:Int)))) () h SF Z
  refine eP ?_;exact f_ (F.1) () h SF Z
 intro ce e7 h;refine aN<|aU<|aA Z<|lB Z<|aP ?_;refine eG h Z (λh=>?_) λh=>?_
 ·refine aU ?_;refine aB (Ox (r:=Value.agg #[cW,cW,cW]) (by intro w;simp[Instr.build,Instr.fill,gT,fN,e_,gU,gV,fO,iS])) Z ?_;refine aA Z<|cD 0 (vs:=[cW,cW,cW]) Z Z Z Z Z Z<|aC Z<|aP<|aS<|aG ?_;cases h;exact gY ((cW),([]),(cW),([]),(cW),([])) Z Z (RV.cell 0 Z Z Z Z) (RV.tmp Z) .nil (aH.cons mX (aH.cons mX (aH.cons mX aH.nil)))
 refine cL<|aU<|cM 1 Z<|Bu (A:=gX) (B:=ack) (vs:=[Value.agg #[v5,v7,v9]]) (λaz=>Dd U p0 D p2 b az=some r) (λaz d=>Value.agg #[d.1,d.2.1,d.2.2.1]) (λaz d=>[Ar bJ.raw d.1 d.2.2.2.1,S,ab,V,T,Ar bJ.raw d.2.1 d.2.2.2.2.1,fQ bJ.raw d.2.2.2.2.1 d.2.2.2.2.2.1,Ar bJ.raw d.2.2.1 d.2.2.2.2.2.2.1,tC bJ.raw d.2.2.2.2.2.2.1 d.2.2.2.2.2.2.2.1 d.2.2.2.2.2.2.2.2]) (λaz d=>[mT aM d.2.2.2.1 az.1,N,O,al,Sl aM v2 D.1,L,M,ao,an,Sl dY J b,wX aM d.2.2.2.2.2.1 az.2.1,Bz aM d.2.2.2.2.2.2.2.2 az.2.2]) (pJ.fn (show bB Tryz.prog 70 from Tryz.call70) Z) Tryz.func70 Z Tryz.ntmps70 Z Z ?_ ?_
 ·refine aU<|aJ (aQ.box (cs:=[v5,v7,v9]) Z Z) Z λbX=>let da:=bM bX [v5,v7,v9] 43;aJ (aQ.alloc (cs:=[cW,cW,cW]) Z Z) Z λbk=>let b6:=bM bk [cW,cW,cW] 43;aP<|aU<|bV Z<|dK 1 Z<|eI h λbx fw h=>let c8:=(sG U p0 D p2 p3 b bx);aJ (zBb Iz (AU U v5 z6 bx fw) Z (iB [5] Z)) Z λac=>let b8:=mT aM ac.2 bx;let b5:=Ar bJ.raw ac.1 ac.2;bZ (fZ 1 Z (lH (j:=0) Z iY))<|bD (tM (cK (i:=0) (j:=0) Z Z)) λeU=>?_
  refine aB (Oy (r:=Value.agg #[ac.1,cW,cW]) Z (by intro w;simp[Instr.build,Instr.fill,gT,fN,e_,gU,gV,fO,iS,iF eU])) Z ?_;refine aJ (aQ.alloc (cs:=[cW,cW,cW]) Z Z) Z λa2=>bD (tM (cK (i:=1) (j:=0) Z Z)) λeX=>cD 0 (vs:=[ac.1,cW,cW]) Z Z (fY eX (fY Z (fY Z Z))) Z Z Z<|aP<|aN<|jW (B:=NV) (λai=>xT U p0 D p2 b bx ai=some r) (λai t=>[(2,vP bk),(3,vP a2)]) (λai t=>[bM a2 [ac.1,t.1,t.2.2.2.1] 43,b5,b6,S,ab,V,T,Ar bJ.raw t.1 t.2.1,fQ bJ.raw t.2.1 t.2.2.1,Ar bJ.raw t.2.2.2.1 t.2.2.2.2.1,tC bJ.raw t.2.2.2.2.1 t.2.2.2.2.2.1 t.2.2.2.2.2.2]) (λai t=>[b8,N,O,al,Sl aM v2 D.1,L,M,ao,an,Sl dY J b,wX aM t.2.2.1 ai.1,Bz aM t.2.2.2.2.2.2 ai.2]) ?_ ?_
  ·refine aU<|aC Z<|aP<|aT<|bZ (gC bJ.raw)<|bZ (iJ bJ.raw)<|bZ (cG (eC:aI _ _ (wX aM b9 ([]:rV))))<|bZ (gC bJ.raw)<|bZ (uG bJ.raw)<|bZ (cG (eC:aI _ _ (Bz aM (tg 2 ([]:MB)) ([]:CW))))<|nH (B:=NV) c8 (λC s=>[(1,vP bX),(2,vP bk),(3,vP a2),(4,vI (C.1))]) (λC s=>[bM a2 [ac.1,s.1,s.2.2.2.1] 43,b5,b6,da,S,ab,V,T,Ar bJ.raw s.1 s.2.1,fQ bJ.raw s.2.1 s.2.2.1,Ar bJ.raw s.2.2.2.1 s.2.2.2.2.1,tC bJ.raw s.2.2.2.2.1 s.2.2.2.2.2.1 s.2.2.2.2.2.2]) (λC s=>[b8,N,O,al,Sl aM v2 D.1,L,M,ao,an,Sl dY J b,wX aM s.2.2.1 C.2.1,Bz aM s.2.2.2.2.2.2 C.2.2]) ((0:Int),([]:rV),([]:CW)) ((tg 1 (cW)),(tg 1 ([]:fL)),b9,(tg 2 (cW)),(tg 2 ([]:fL)),(tg 2 ([]:Bp)),(tg 2 ([]:MB))) h SF (a_.ix [4,5,6,7,8,9,10,11,3,2,1,0] Z Z) (iB [2,3,4,5,6,7,8,9,10,11,1,0] Z) ?_;intro dt C s h;let ag:=s.2.2.2;let av:=ag.2.2;let dx:=tC bJ.raw ag.2.1 av.1 av.2;refine aN<|aU<|aA Z<|bV Z<|dK 3 Z<|aB (dM Z (z_ Z) Z) Z<|cU Z<|aP ?_;refine eG h Z (λh=>?_) λh=>?_
   ·refine cL<|aN<|aT<|aN ?_;refine rP [0,1,0,4,0,28,60,124,252,511,1023,2047] 9 mixedOrders ?_;refine cC Z<|eQ 0 Z<|cC Z<|eQ 3 Z<|aV Z<|cQ h λbn h=>aZ (cE (z_ Z)) λeT=>eN Z (cO Z Z eT Z Z bn)<|bA Z .nil (eV 7 Z) (c_ Z (b_ Z) Z Z bn) aL.z<|eI h λbz fx h=>zBd Z Z Z (zBb Iz (AU U ((at' z8 C.1).1) ((at' z8 C.1).2) bz fx) Z (aH.cons (bR (z_ Z) bn.1 (by first|exact bn.2|simpa using bn.2)) .nil)) Z (λah=>(nK [([2],[])] Z)) λah=>let dw:=wX aM (s.2.2.1++[ah.2]) (C.2.1++[bz]);let dv:=fQ bJ.raw (s.2.1++[ah.1]) (s.2.2.1++[ah.2]);?_
    refine zBe (fZ 1 Z (lH (j:=0) Z iY))<|aZ (tM (cK (i:=0) (j:=0) Z Z)) λc2=>zBe (iJ bJ.raw)<|zBe (rX 0 1 Z Z Z)<|zBe (cG (hJ (b_ Z) eC))<|zBd Z Z Z (cX (e:=bJ.raw) ([ah.1]) [(0,ah.1)] Z Z Z Z (jU (ah.1) c2) Z Z (fY c2 Z)) Z (λfs=>(nK [([2],[])] Z)) λfs=>bN 9 Z Z<|bD (aX (Da Z)) λcr=>bD (aX (b_ Z)) λct=>bD (dQ 11 Z) λcu=>bD (dQ 1 Z) λcv=>cQ h λdp h=>bZ (cG (gH (Da Z) (b_ Z)))<|bZ (nP 11 1 Z Z Z) ?_;refine aJ (aQ.append 9 0 Z Z Z Z Z Z Z (by have q:=dp;have n:=cr;have p:=ct;have q2:=cu;have q3:=cv;(try simp only[zA8,zAg,zA5]at *);omega) (by have q:=dp;have n:=cr;have p:=ct;have q2:=cu;have q3:=cv;(try simp only[zA8,zAg,zA5]at *);omega) Z) Z λdd=>let dz:=bM a2 [ac.1,dd,ag.1] 43;let dy:=Ar bJ.raw dd (s.2.1++[ah.1]);?_
    refine bV Z<|bD (tM (fM (i:=9) (q:=10) (j:=0) Z Z Z)) λe2=>qN 1 Z Z e2 Z Z Z<|aP<|aU<|aC Z<|aP<|aN<|jW (B:=US) (λaF=>Ev C (bL c8 dt) bz aF=some r) (λaF G=>[(1,vP bX),(2,vP bk),(3,vP a2),(4,vI (C.1)),(5,G.1)]) (λaF G=>[dz,b5,b6,da,S,ab,V,T,dy,dv,Ar bJ.raw ag.1 ag.2.1,dx,Ar bJ.raw G.1 G.2.1,fQ bJ.raw G.2.1 G.2.2]) (λaF G=>[dw,b8,N,O,al,Sl aM v2 D.1,L,M,ao,an,Sl dY J b,Bz aM av.2 C.2.2,wX aM G.2.2 aF]) ?_ ?_
    ·refine aU<|aC Z<|aP<|aT<|bZ (gC bJ.raw)<|bZ (iJ bJ.raw)<|bZ (cG (eC:aI _ _ (wX aM b9 ([]:rV))))<|nH (B:=US) (AA U p3 C (bL c8 dt) bz) (λad K=>[(1,vP bX),(2,vP bk),(3,vP a2),(4,vI (C.1)),(5,K.1),(6,vI (ad.2))]) (λad K=>[dz,b5,b6,da,S,ab,V,T,dy,dv,Ar bJ.raw ag.1 ag.2.1,dx,Ar bJ.raw K.1 K.2.1,fQ bJ.raw K.2.1 K.2.2]) (λad K=>[dw,b8,N,O,al,Sl aM v2 D.1,L,M,ao,an,Sl dY J b,Bz aM av.2 C.2.2,wX aM K.2.2 ad.1]) (([]:rV),(0:Int)) ((tg 1 (cW)),(tg 1 ([]:fL)),b9) h SF (a_.ix [3,4,5,6,7,8,9,10,11,12,13,14,1,0] Z Z) (iB [1,4,5,6,7,8,9,10,11,12,13,15,0] Z) ?_;intro fR ad K h;refine aN<|aU<|aA Z<|bV Z<|dK 3 Z<|aA Z<|cQ h λbo h=>aB (bK Z Z (Ir Z) Z Z bo) Z<|aB (c_ Z (Ir Z) Z Z bo) Z ?_;refine aB (dM Z (bR (Ir Z) bo.1 (by first|exact bo.2|simpa using bo.2)) Z) Z ?_;refine cU Z<|aP ?_;refine eG h Z (λh=>?_) λh=>?_
     ·refine cL<|aN<|aT<|aR<|aA Z<|bV Z<|dK 3 Z<|aA Z<|cQ h λaa h=>aB (bK Z Z (Ir Z) Z Z aa) Z<|aB (c_ Z (Ir Z) Z Z aa) Z<|aA Z<|cQ h λbp h=>aB (bK Z Z (bR (Ir Z) aa.1 (by first|exact aa.2|simpa using aa.2)) Z Z bp) Z ?_;refine aB (c_ Z (bR (Ir Z) aa.1 (by first|exact aa.2|simpa using aa.2)) Z Z bp) Z<|eI h λdE fy h=>aJ (zBb Iz (AU U ((at' ((at' de C.1).2) ad.2).1) ((at' ((at' de C.1).2) ad.2).2) dE fy) Z (aH.cons (bR (bR (Ir Z) aa.1 (by first|exact aa.2|simpa using aa.2)) bp.1 (by first|exact bp.2|simpa using bp.2)) .nil)) Z λbF=>?_;refine bZ (fZ 1 Z (lH (j:=0) Z iY))<|bD (tM (cK (i:=0) (j:=0) Z Z)) λc4=>bZ (iJ bJ.raw)<|bZ (rX 0 1 Z Z Z)<|bZ (cG (hJ (b_ Z) eC))<|aJ (cX (e:=bJ.raw) ([bF.1]) [(0,bF.1)] Z Z Z Z (jU (bF.1) c4) Z Z (fY c4 Z)) Z λfU=>bD (aX (aI.fact 14 Z)) λcA=>bD (aX (b_ Z)) λcF=>bD (dQ 15 Z) λcP=>bD (dQ 1 Z) λcR=>cQ h λdr h=>bZ (cG (gH (aI.fact 14 Z) (b_ Z)))<|bZ (nP 15 1 Z Z Z) ?_;refine aJ (aQ.append 13 0 Z Z Z Z Z Z Z (by have q:=dr;have n:=cA;have p:=cF;have q2:=cP;have q3:=cR;(try simp only[zA8,zAg,zA5]at *);omega) (by have q:=dr;have n:=cA;have p:=cF;have q2:=cP;have q3:=cR;(try simp only[zA8,zAg,zA5]at *);omega) Z) Z λfu=>?_;refine aC Z<|eS<|lA<|aR<|aA Z<|cN Z<|aC Z<|aP ?_;exact iP ((ad.1++[dE]),(wI .i64 (ad.2+(1:Int)))) (fu,(K.2.1++[bF.1]),(K.2.2++[bF.2])) h SF (a_.ix [1,2,3,4,5,6,7,8,9,10,11,12,13,14] Z Z) (iB [3,4,5,6,7,8,9,10,11,12,13,14,0] Z)
     refine eP ?_;exact f_ (ad.1) (K.1,K.2.1,K.2.2) h SF Z
    intro aF G h;refine aR<|bV Z<|dK 0 Z<|aA Z<|bD (tM (fM (i:=12) (q:=13) (j:=12) Z Z Z)) λc3=>bZ (uG bJ.raw)<|bZ (G_ 13 14 Z Z Z)<|bZ (Do 0 13 Z Z Z)<|bZ (cG (hJ (Da Z) eC))<|aJ (cX (e:=bJ.raw) ([G.1]) [(0,G.1)] Z Z Z Z (jU (G.1) c3) Z Z (fY c3 Z)) Z λfS=>bD (aX (Da Z)) λcw=>bD (aX (b_ Z)) λcx=>bD (kC 13 Z) λcy=>bD (kC 1 Z) λcz=>cQ h λdq h=>bZ (cG (gH (Da Z) (b_ Z)))<|bZ (Fj 13 1 Z Z Z) ?_;refine aJ (aQ.append 11 0 Z Z Z Z Z Z Z (by have q:=dq;have n:=cw;have p:=cx;have q2:=cy;have q3:=cz;(try simp only[zA8,zAg,zA5]at *);omega) (by have q:=dq;have n:=cw;have p:=cx;have q2:=cy;have q3:=cz;(try simp only[zA8,zAg,zA5]at *);omega) Z) Z λft=>?_;refine bV Z<|bD (tM (gO (i:=11) (q:=12) (j:=0) Z Z Z)) λe3=>qN 1 Z Z e3 Z Z Z<|eS<|lA<|aR<|aA Z<|cN Z<|aC Z<|aP ?_;exact iP ((wI .i64 (C.1+(1:Int))),(C.2.1++[bz]),(C.2.2++[aF])) (dd,(s.2.1++[ah.1]),(s.2.2.1++[ah.2]),ft,(ag.2.1++[G.1]),(av.1++[G.2.1]),(av.2++[G.2.2])) h SF (a_.ix [1,2,3,4,5,6,7,8,9,10,11,12] Z Z) (iB [3,4,5,6,7,8,9,10,11,12,2,0] Z)
   refine eP ?_;exact cB (C.2.1,C.2.2) (s.1,s.2.1,s.2.2.1,ag.1,ag.2.1,av.1,av.2) h SF (a_.ix [0,1,2,4,5,6,7,8,9,10,11] Z Z) (aH.refl _ _)
  intro ai t h;unfold xT at h;refine aU<|cM 0 Z<|bD (tM (cK (i:=1) (j:=0) Z Z)) λeY=>bD (tM (fM (i:=7) (q:=8) (j:=10) Z Z Z)) λe0=>bD (tM (gO (i:=9) (q:=10) (j:=11) Z Z Z)) λe1=>cD 2 (vs:=[ac.1,t.1,t.2.2.2.1]) Z Z (fY eY (fY e0 (fY e1 Z))) Z Z Z<|aP<|aS ?_;exact jX (bx,ai.1,ai.2) (ac.1,t.1,t.2.2.2.1,ac.2,t.2.1,t.2.2.1,t.2.2.2.2.1,t.2.2.2.2.2.1,t.2.2.2.2.2.2) h (.inl Z) (Fa.r1 Z (RV.cell 2 Z Z Z Z)) Z (a_.ix [1,3,4,5,6,7,8,9,10] Z Z) (aH.refl _ _)
 intro az d h;let ar:=d.2.2.1;let dB:=bM b4 [d.1,d.2.1,ar] 43;let a4:=bM b3 [d.1,d.2.1,ar] 43;let aw:=d.2.2.2.2;let au:=aw.2.2.1;let af:=Ar bJ.raw d.2.1 aw.1;let a5:=Ar bJ.raw ar au;unfold Dd at h;refine bD (tM (cK (i:=0) (j:=0) Z Z)) λfc=>bD (tM (fM (i:=5) (q:=6) (j:=10) Z Z Z)) λfd=>bD (tM (gO (i:=7) (q:=8) (j:=11) Z Z Z)) λfe=>cD 2 (vs:=[d.1,d.2.1,d.2.2.1]) Z Z (fY fc (fY fd (fY fe Z))) Z Z Z<|aP<|aN<|jW (B:=List (List V0)×List (List V0)×List b7×List V0) (λaK=>De aK=some r) (λaK X=>[(8,vP b3),(10,vP b4)]) (λaK X=>[Ar bJ.raw d.1 X.2.2.2,S,a4,af,fQ bJ.raw aw.1 X.1,a5,tC bJ.raw au X.2.1 X.2.2.1]) (λaK X=>[mT aM X.2.2.2 aK.1,N,O,al,Sl aM v2 D.1,L,M,ao,an,Sl dY J b,wX aM X.1 aK.2.1,Bz aM X.2.2.1 aK.2.2]) ?_ ?_
 ·refine aU<|aC Z<|aP<|aT<|nH (B:=List (List V0)×List (List V0)×List b7×List V0) (jR U p0 D p2 b) (λa g=>[(2,vI (p2)),(4,J),(5,vP b1),(6,vP b2),(8,vP b3),(10,vP b4),(14,vI (a.1))]) (λa g=>[Ar bJ.raw d.1 g.2.2.2,S,a4,V,T,af,fQ bJ.raw aw.1 g.1,a5,tC bJ.raw au g.2.1 g.2.2.1]) (λa g=>[mT aM g.2.2.2 a.2.1,N,O,al,Sl aM v2 D.1,L,M,ao,an,Sl dY J b,wX aM g.1 a.2.2.1,Bz aM g.2.2.1 a.2.2.2]) ((0:Int),az.1,az.2.1,az.2.2) (aw.2.1,aw.2.2.2.1,aw.2.2.2.2,d.2.2.2.1) h SF (a_.refl _) (aH.refl _ _) ?_;intro fI a g h;let c9:=vI ((at' b a.1).2.1);let am:=g.2.2.2;let bw:=wX aM g.1 a.2.2.1;let bu:=fQ bJ.raw aw.1 g.1;let bt:=mT aM am a.2.1;let bs:=Bz aM g.2.2.1 a.2.2.2;let br:=Ar bJ.raw d.1 am;let bq:=tC bJ.raw au g.2.1 g.2.2.1;let a3:=(bL (jR U p0 D p2 b) fI)
  refine aN<|aU<|aA Z<|aA Z<|iL (Ir Z) Z<|cU Z<|aP ?_;refine eG h Z (λh=>?_) λh=>?_
  ·refine cL<|aN<|aT ?_;refine rP [0,0,0,0,0,0,48,112,255] 8 mixedOrders ?_;refine jA 4 Z<|jA 3 Z<|aV Z<|jA 2 Z<|aV Z<|aV Z<|cQ h λfk h=>bA Z .nil (eV 9 Z) (bG Z Z (b_ Z) Z Z fk) aL.z<|bA Z .nil (eV 9 Z) (gS (cs:=[vI ((at' b a.1).1),c9,vI ((at' b a.1).2.2)]) Z (b_ Z) Cq Z Z Z Z fk) aL.z<|bN 8 Z Z<|Bu (A:=bQ×List (List bQ)×List bQ) (B:=List V0×List (List V0)×List b7×List (List V0)) (vs:=[Value.agg #[vS (p0.1),v0,v1],Value.agg #[v2,v3],vI (p2),Value.agg #[d.1,d.2.1,d.2.2.1],Value.agg #[vI ((at' b a.1).1),vI ((at' b a.1).2.1),vI ((at' b a.1).2.2)]]) (λa0=>pS a a3 a0=some r) (λa0 aj=>Value.tuple #[]) (λa0 aj=>[Ar bJ.raw d.1 aj.1,S,a4,V,T,af,fQ bJ.raw aw.1 aj.2.2.2,a5,tC bJ.raw au aj.2.1 aj.2.2.1]) (λa0 aj=>[mT aM aj.1 a0.1,N,O,al,Sl aM v2 D.1,L,M,ao,an,Sl dY J b,wX aM aj.2.2.2 a0.2.2,Bz aM aj.2.2.1 a0.2.1]) (pJ.fn (show bB Tryz.prog 71 from Tryz.call71) Z) Tryz.func71 Z Tryz.ntmps71 Z Z ?_ ?_
   ·refine aU<|aJ (aQ.box (cs:=[vS (p0.1),v0,v1]) Z Z) Z λfB=>let c7:=bM fB [vS (p0.1),v0,v1] 36;aJ (aQ.box (cs:=[v2,v3]) Z Z) Z λfC=>let dc:=bM fC [v2,v3] 31;aJ (aQ.box (cs:=[d.1,d.2.1,ar]) Z Z) Z λe8=>let b0:=bM e8 [d.1,d.2.1,ar] 43;aJ (aQ.box (cs:=[vI ((at' b a.1).1),c9,vI ((at' b a.1).2.2)]) Z Z) Z λf2=>aP<|aU<|bV Z<|dK 0 Z<|aC Z<|aP<|aN<|aU<|bV Z<|dK 0 Z<|cH Z<|aP ?_
    refine eG h Z (λh=>?_) λh=>?_
    ·refine aN ?_;refine rP [0,0,0,0,0,28,0,127,255,511,511,1023,4095] 12 mixedOrders ?_;refine jA 3 Z<|jA 2 Z<|jA 2 Z<|jA 1 Z<|aV Z<|Fe (A:=bQ) (B:=DN) (vs:=[Value.agg #[v2,v3],Value.agg #[d.1,d.2.1,d.2.2.1],vI ((at' b a.1).2.1)]) (λbH=>FG U p0 D b a a3 bH=some r) (λbH bh=>bh.1) (λbH bh=>[Ar bJ.raw bh.1 bh.2,b0,dc,c7,br,S,a4,V,T,af,bu,a5,bq]) (λbH bh=>[mT aM bh.2 bH,bt,N,O,al,Sl aM v2 D.1,L,M,ao,an,Sl dY J b,bw,bs]) Z Z Z (pJ.fn (show bB Tryz.prog 59 from Tryz.call59) Z) Tryz.func59 Z Tryz.ntmps59 Z Z (λ_ _=>(nK [([2],[]),([3],[])] Z)) ?_ ?_
     ·refine aU<|aJ (aQ.box (cs:=[v2,v3]) Z Z) Z λe9=>aJ (aQ.box (cs:=[d.1,d.2.1,ar]) Z Z) Z λfa=>aC Z<|aP<|aU<|bV Z<|dK 0 Z<|eI h λfo fK h=>aJ (zBb Iz (AU U d.1 ((List.zip am a.2.1)) fo fK) Z (aH.cons (cK (i:=6) (j:=0) Z Z) .nil)) Z λcd=>bZ (fZ 1 Z (lH (j:=0) Z iY))<|aC Z<|aP<|aN<|jW (B:=fL) (λbP=>Ax U p0 D b a a3 bP=some r) (λbP cb=>[(7,cd.1)]) (λbP cb=>[Ar bJ.raw cd.1 cb,b0,dc,c7,br,S,a4,V,T,af,bu,a5,bq]) (λbP cb=>[mT aM cb bP,bt,N,O,al,Sl aM v2 D.1,L,M,ao,an,Sl dY J b,bw,bs]) ?_ ?_
      ·refine aU<|aC Z<|aP<|aT<|nH (B:=fL) (Az U p0 D b a a3) (λW a1=>[(2,c9),(3,vP e9),(4,vP fa),(7,cd.1),(8,vI (W.1))]) (λW a1=>[Ar bJ.raw cd.1 a1,bM fa [d.1,d.2.1,ar] 43,bM e9 [v2,v3] 31,b0,dc,c7,br,S,a4,V,T,af,bu,a5,bq]) (λW a1=>[mT aM a1 W.2,bt,N,O,al,Sl aM v2 D.1,L,M,ao,an,Sl dY J b,bw,bs]) ((0:Int),fo) (cd.2) h SF (a_.ix [0,1,2,4,5,6,7,8,9,10,11,12,13,14,15] Z Z) (aH.refl _ _) ?_;intro fP W a1 h;refine aN<|aU<|aA Z<|bV Z<|dK 2 Z<|aA Z<|cQ h λbY h=>aB (bK Z Z (Fy Z) Z Z bY) Z<|aB (bS Z (Fy Z) Z Z bY) Z<|aB (fH Z (zBc (Fy Z) bY.1 bY.2) Z) Z<|cU Z<|aP ?_;refine eG h Z (λh=>?_) λh=>?_
       ·refine cL<|aN<|aT ?_;refine rP [0,0,2,0,14,30,0,126,254,510,0,0,2048,0,14336,30720,0,129024,260096,523264,1048575,2097151] 20 mixedOrders ?_;refine aV Z<|cC Z<|eQ 2 Z<|aV Z<|cQ h λa8 h=>bA Z .nil (eV 6 Z) (bK Z Z (b_ Z) Z Z a8) aL.z<|bA Z .nil (eV 6 Z) (bS Z (b_ Z) Z Z a8) aL.z<|aV Z<|cQ h λdk h=>bA Z .nil (eV 6 Z) (bG Z Z (zBc (b_ Z) a8.1 a8.2) Z Z dk) aL.z<|eN Z (dC Z Z Z Z Z)<|bA Z .nil (eV 6 Z) (eL Z (zBc (b_ Z) a8.1 a8.2) Z Z Z gA dk) aL.z<|zBd Z Z Z (cX (e:=fT) ([]:bT) [] Z Z Z Z ((λi h=>by simp at h;subst h;rfl)) Z Z Z) Z (λfp=>(nK [([],[6]),([],[6]),([],[6]),([],[6]),([3],[])] Z)) λfp=>eN Z (cT Z Z Z Z Z)<|bA Z (a_.cons 2 Z .nil) .nil (dL 0 Z Z Z Z Z) (aL.h (a_.ix [1] Z Z) .nil aL.z)<|eN Z (dG Z)<|cQ h λP h=>aZ (cE (fM (i:=12) (q:=13) (j:=11) Z Z Z)) λdF=>eN Z (cO Z Z dF Z Z P)<|aZ (dQ 13 Z) λdH=>aZ (aX (yT Z)) λdI=>bA Z (a_.cons 12 Z .nil) .nil (gE 0 Z Z (dH.trans dI) Z Z P) (aL.h (a_.ix [11] Z Z) .nil aL.z)<|eN Z (dG Z)<|cQ h λba h=>aZ (cE (Dj (q:=13) (j:=11) Z Z P.1 (by first|exact P.2|simpa using P.2))) λdJ=>?_;refine eN Z (cO Z Z dJ Z Z ba)<|aZ (aX (yT Z)) λdN=>?_;refine aZ (aX (bO (yT Z) P.1 (by first|exact P.2|simpa using P.2))) λdO=>?_;refine bA Z (a_.cons 13 Z .nil) .nil (cI (f:=λx=>x) Z (DU (q:=0) Z P.1 (by have n:=P.2;have p:=dN;(try simp only[zA1]at n p);(try simp only[zA1]);omega)) Z Z Z hZ ⟨ba.1,(by have n:=ba.2;have p:=dO;(try simp only[zA1]at n p);(try simp only[zA1]);omega)⟩) (aL.h (a_.ix [12] Z Z) .nil aL.z)<|cQ h λfi h=>zBd Z Z Z (jN 0 iY Z Z Z (bO (bO (yT Z) P.1 (by first|exact P.2|simpa using P.2)) ba.1 (by first|exact ba.2|simpa using ba.2)) Z Z Z Z fi Z) Z (λbf=>(nK [([],[6]),([],[6]),([],[6]),([],[6]),([3],[])] Z)) λbf=>?_;refine bN 20 Z Z<|cQ h λc5 h=>aB (bK Z Z (cK (i:=1) (j:=0) Z Z) Z Z c5) Z<|bD (Know.one ((dR (aI.res 0 Z) iY))) λcS=>bZ (fZ 0 Z (dR (aI.res 0 Z) iY))<|bD (aX (mR Z)) λdP=>bZ (cG (gJ (Int.toNat ((at' (at' D.2 ((at' b a.1).2.1)) W.1).1)) (mR Z) (b_ Z))) ?_;refine tP (lQ (us:=[bf]) (o:=0) (q:=1) 0 bf ⟨c5.1,(by have n:=c5.2;have p:=dP;(try simp only[zA1]at n p);(try simp only[zA1]);omega)⟩ Z Z Z Z (by rw[show(bf).cells = #[bf]from iF cS]) Z Z Z (fY cS Z) Z) λfV=>?_;refine eS<|lA<|aR<|aA Z<|cN Z<|aC Z<|aP ?_;exact iP ((wI .i64 (W.1+(1:Int))),(List.set W.2 (Int.toNat ((at' (at' D.2 ((at' b a.1).2.1)) W.1).1)) (([]:bT)++(at' (at' a.2.2.1 ((at' b a.1).2.1)) W.1)))) (List.set a1 (Int.toNat ((at' (at' D.2 ((at' b a.1).2.1)) W.1).1)) bf) h SF (a_.refl _) (iB [0,3,4,5,6,7,8,9,10,11,12,13,14] Z)
       refine eP ?_;exact cB (W.2) (a1) h SF (a_.ix [0,3,4,5,6,7,8,9,10,11,12,13,14] Z Z) (aH.refl _ _)
      intro bP cb h;unfold Ax at h;refine aU<|aA Z<|aC Z<|aP<|aS ?_;exact jX (bP) (cd.1,cb) h (.inl Z) (Fa.r1 Z (RV.tmp Z)) Z (a_.refl _) (aH.refl _ _)
     intro bH bh h;refine eN Z (dG Z)<|eI h λfm fJ h=>zBd Z Z Z (zBb aaa (PL U v0 v1 v2 v3 z4 bh.1 ((List.zip bh.2 bH)) fm fJ) Z (aH.cons (zI Z) (aH.cons (Bh Z) (aH.cons (CL Z) (aH.cons (zJ Z) (aH.cons (Fy Z) (aH.cons (cK (i:=0) (j:=0) Z Z) .nil))))))) Z (λcc=>(nK [] Z)) λcc=>eN Z (dG Z)<|eN Z (vY Z Z)<|eN Z (vY Z Z)<|eN Z (zO Z)<|bN 12 Z Z<|aC Z<|aP<|aN<|jW (B:=fL) (λbI=>Aw a a3 bI=some r) (λbI ca=>[]) (λbI ca=>[Ar bJ.raw d.1 ca,S,a4,V,T,af,bu,a5,bq]) (λbI ca=>[mT aM ca bI,N,O,al,Sl aM v2 D.1,L,M,ao,an,Sl dY J b,bw,bs]) ?_ ?_
     ·refine aU<|aA Z<|cH Z<|aP ?_;refine eG h Z (λh=>?_) λh=>?_
      ·refine aR<|bV Z<|dK 2 Z<|aA Z<|aA Z<|cQ h λe4 h=>aB (bK Z Z (cK (i:=5) (j:=1) Z Z) Z Z e4) Z<|bD (Know.one ((dR (aI.res 0 Z) iY))) λdj=>bZ (fZ 0 Z (dR (aI.res 0 Z) iY))<|bD (aX (zI Z)) λfb=>bZ (cG (gJ (Int.toNat ((at' b a.1).2.1)) (zI Z) (b_ Z))) ?_;refine tP (lQ (us:=[cc]) (o:=0) (q:=1) 4 cc ⟨e4.1,(by have n:=e4.2;have p:=fb;(try simp only[zA1]at n p);(try simp only[zA1]);omega)⟩ Z Z Z Z (by rw[show(cc).cells = #[cc]from iF dj]) Z Z Z (fY dj Z) Z) λf3=>?_;refine aP ?_;exact cB (List.set a.2.1 (Int.toNat ((at' b a.1).2.1)) fm.1) (List.set am (Int.toNat ((at' b a.1).2.1)) cc) h SF (a_.ix [4,5,6,7,8,9,10,11,12] Z Z) (iB [0,4,5,6,7,8,9,10,11,12,13,14] Z)
      refine cL ?_;exact cB (a.2.1) (am) h SF (a_.ix [5,6,7,8,9,10,11,12,13] Z Z) (iB [1,2,3,4,5,6,7,8,9,10,11,12] Z)
     intro bI ca h;unfold Aw at h;refine aS<|aG ?_;exact jX (bI,a.2.2.2,a.2.2.1) (ca,g.2.1,g.2.2.1,g.1) h (.inl Z) (Fa.r0 Z) Z (a_.refl _) (aH.refl _ _)
    refine cL<|aN<|aU<|bV Z<|dK 0 Z<|cH Z<|aP ?_;refine eG h Z (λh=>?_) λh=>?_
    ·refine aN<|jW (B:=List (List V0)×List b7) (λax=>Ay a a3 ax=some r) (λax ap=>[]) (λax ap=>[br,S,a4,V,T,af,bu,a5,tC bJ.raw au ap.1 ap.2]) (λax ap=>[Bz aM ap.2 ax,bt,N,O,al,Sl aM v2 D.1,L,M,ao,an,Sl dY J b,bw]) ?_ ?_
     ·refine aN ?_;refine rP [0,1,0,7,15,0,32,127,255,511,0,2047] 11 mixedOrders ?_;refine cC Z<|eQ 1 Z<|aV Z<|cQ h λH h=>aZ (cE (gO (i:=11) (q:=12) (j:=11) Z Z Z)) λdS=>eN Z (cO Z Z dS Z Z H)<|aZ (kC 12 Z) λdT=>aZ (aX (yT Z)) λdU=>bA Z (a_.cons 11 Z .nil) .nil (gE 0 Z Z (dT.trans dU) Z Z H) aL.z<|cC Z<|eQ 0 Z<|cQ h λbb h=>aZ (cE (zA (q:=12) (j:=11) Z Z H.1 (by first|exact H.2|simpa using H.2))) λdV=>?_;refine eN Z (cO Z Z dV Z Z bb)<|aZ (aX (yT Z)) λcf=>?_;refine aZ (j_ (k:=((at' b a.1).2.1)) 12 Z ⟨H.1,(by have n:=H.2;have p:=cf;(try simp only[zA1]at n p);(try simp only[zA1]);omega)⟩) λdX=>?_;refine aZ (aX (bO (yT Z) H.1 (by first|exact H.2|simpa using H.2))) λd0=>?_;refine bA Z (a_.cons 12 Z .nil) .nil (cI (f:=λx=>x) Z (nN (q:=0) Z H.1 (by have n:=H.2;have p:=cf;(try simp only[zA1]at n p);(try simp only[zA1]);omega)) Z Z Z hZ ⟨bb.1,(by have n:=bb.2;have p:=dX;have q2:=d0;(try simp only[zA1]at n p q2);(try simp only[zA1]);omega)⟩) aL.z ?_;refine bA Z (a_.cons 12 Z .nil) (eV 11 Z) (dM Z (Bw (q:=0) (j:=0) Z Z ⟨H.1,by first|exact H.2|simpa using H.2⟩ ⟨bb.1,by first|exact bb.2|simpa using bb.2⟩) Z) aL.z<|aV Z<|bN 11 Z Z<|cU Z<|aP ?_;refine eG h Z (λh=>?_) λh=>?_
      ·refine rP [0,1,0,7,15,0,32,0,128,0,896,1920,0,4096,16256,32640,0,0,131072,0,917504,1966080,4128768,8323072,16777088,33554431,67108863] 25 mixedOrders ?_;refine cC Z<|eQ 1 Z<|aV Z<|cQ h λae h=>aZ (cE (gO (i:=11) (q:=12) (j:=11) Z Z Z)) λd1=>eN Z (cO Z Z d1 Z Z ae)<|aZ (kC 12 Z) λd2=>aZ (aX (yT Z)) λd3=>bA Z (a_.cons 11 Z .nil) .nil (gE 0 Z Z (d2.trans d3) Z Z ae) aL.z<|cC Z<|eQ 0 Z<|cC Z<|eQ 1 Z<|aV Z<|cQ h λu h=>aZ (cE (gO (i:=11) (q:=12) (j:=11) Z Z Z)) λd4=>eN Z (cO Z Z d4 Z Z u)<|aZ (kC 12 Z) λd5=>aZ (aX (yT Z)) λd6=>bA Z (a_.cons 11 Z .nil) .nil (gE 0 Z Z (d5.trans d6) Z Z u) aL.z<|cC Z<|eQ 0 Z<|cQ h λaq h=>aZ (cE (zA (q:=12) (j:=11) Z Z u.1 (by first|exact u.2|simpa using u.2))) λd7=>?_;refine eN Z (cO Z Z d7 Z Z aq)<|aZ (aX (yT Z)) λcg=>?_;refine aZ (j_ (k:=((at' b a.1).2.1)) 12 Z ⟨u.1,(by have n:=u.2;have p:=cg;(try simp only[zA1]at n p);(try simp only[zA1]);omega)⟩) λd8=>?_;refine aZ (aX (bO (yT Z) u.1 (by first|exact u.2|simpa using u.2))) λd9=>?_;refine bA Z (a_.cons 12 Z .nil) .nil (cI (f:=λx=>x) Z (nN (q:=0) Z u.1 (by have n:=u.2;have p:=cg;(try simp only[zA1]at n p);(try simp only[zA1]);omega)) Z Z Z hZ ⟨aq.1,(by have n:=aq.2;have p:=d8;have q2:=d9;(try simp only[zA1]at n p q2);(try simp only[zA1]);omega)⟩) aL.z ?_;refine zBd Z Z Z (cX (e:=fT) ([]:bT) [] Z Z Z Z ((λi h=>by simp at h;subst h;rfl)) Z Z Z) Z (λfq=>(nK [([13],[]),([1],[]),([12],[]),([2],[]),([1],[]),([12],[]),([2],[])] Z)) λfq=>eN Z (cT Z Z Z Z Z)<|bA Z (a_.cons 2 Z .nil) .nil (dL 0 Z Z Z Z Z) (aL.h (a_.ix [1] Z Z) .nil aL.z)<|eN Z (dG Z)<|cQ h λbl h=>aZ (cE (cK (i:=5) (j:=0) Z Z)) λea=>eN Z (cO Z Z ea Z Z bl)<|aZ (aX (b_ Z)) λeb=>bA Z (a_.cons 5 Z .nil) .nil (gE 0 Z Z eb Z Z bl) (aL.h (a_.ix [4] Z Z) .nil aL.z)<|cQ h λfj h=>zBd Z Z Z (jN 0 iY Z Z Z (bO (b_ Z) bl.1 (by first|exact bl.2|simpa using bl.2)) Z Z Z Z fj Z) Z (λbC=>(nK [([13],[]),([1],[]),([12],[]),([2],[]),([1],[]),([12],[]),([2],[])] Z)) λbC=>?_;refine aZ (Know.one ((dR (aI.res 0 Z) iY))) λcV=>zBe (fZ 0 Z (dR (aI.res 0 Z) iY))<|zBe (cG (hJ (b_ Z) eC))<|zBd Z Z Z (cX (e:=bJ.raw) ([bC]) [(0,bC)] Z Z Z Z (jU (bC) cV) Z Z (fY cV Z)) Z (λfr=>(nK [([13],[]),([1],[]),([12],[]),([2],[]),([1],[]),([12],[]),([2],[])] Z)) λfr=>aZ (kC 13 Z) λfD=>aZ (aX (aI.fact 13 Z)) λch=>?_;refine aZ (j_ (k:=((at' b a.1).2.1)) 13 Z ⟨u.1,(by have n:=u.2;have p:=ch;(try simp only[zA1]at n p);(try simp only[zA1]);omega)⟩) λci=>?_;refine zBe (CX (k:=((at' b a.1).2.1)) 13 Z ⟨u.1,(by have n:=u.2;have p:=ch;(try simp only[zA1]at n p);(try simp only[zA1]);omega)⟩) ?_;refine aZ (aX (bO (aI.fact 13 Z) u.1 (by first|exact u.2|simpa using u.2))) λec=>?_;refine zBe (cG (bO (bO (aI.fact 13 Z) u.1 (by first|exact u.2|simpa using u.2)) aq.1 (by first|exact aq.2|simpa using aq.2))) ?_;refine zBe (Cu (k:=((at' b a.1).2.2)) 1 Z ⟨aq.1,(by have n:=aq.2;have p:=ec;(try simp only[zA1]at n p);(try simp only[zA1]);omega)⟩) ?_;refine aZ (aX (b_ Z)) λcj=>aZ (aX (mR Z)) λck=>cQ h λdl h=>zBe (cG (gH (b_ Z) (mR Z))) ?_;refine zBd Z Z Z (aQ.append 0 3 Z Z Z Z Z Z Z (by have q:=dl;have n:=cj;have p:=ck;(try simp only[zA8,zAg,zA5]at *);omega) (by have q:=dl;have n:=cj;have p:=ck;(try simp only[zA8,zAg,zA5]at *);omega) Z) Z (λbg=>(nK [([4],[]),([15],[]),([5],[])] Z)) λbg=>?_;refine bN 25 Z Z<|bD (aX (aI.fact 15 Z)) λfF=>?_;refine bD (aX (bO (aI.fact 15 Z) u.1 (by first|exact u.2|simpa using u.2))) λed=>cQ h λbc h=>aB (uJ 1 Z Z Z Z Z bc.1 (by have n:=bc.2;have p:=(ci.trans ed);(try simp only[zA1]at n p);(try simp only[zA1]);omega)) Z ?_;refine bD (tM (cK (i:=0) (j:=0) Z Z)) λcY=>bD (aX (aI.fact 15 Z)) λbU=>?_;refine bD (aX (bO (aI.fact 15 Z) ae.1 (by first|exact ae.2|simpa using ae.2))) λcl=>?_;refine bZ (cG (gJ (Int.toNat ((at' b a.1).2.1)) (aI.fact 15 Z) (gJ (Int.toNat ((at' b a.1).2.2)) (bO (aI.fact 15 Z) ae.1 (by first|exact ae.2|simpa using ae.2)) (b_ Z)))) ?_;refine bZ (Cs (k:=((at' b a.1).2.2)) 2 0 Z Z Z ⟨bc.1,(by have n:=bc.2;have p:=bU;have q2:=cl;(try simp only[zA1]at n p q2);(try simp only[zA1]);omega)⟩) ?_;refine tP (lQ (us:=[bg]) (o:=0) (q:=1) 0 bg ⟨bc.1,(by have n:=bc.2;have p:=bU;have q2:=cl;have q3:=ci;(try simp only[zA1]at n p q2 q3);(try simp only[zA1]);omega)⟩ Z Z Z Z (by rw[show(bg).cells = #[bg]from iF cY]) Z Z Z (fY cY Z) Z) λfW=>?_;refine bZ (DV (k:=((at' b a.1).2.1)) (vs:=d.2.2.2.2.2.2.1) (wss:=g.2.1) (xsss:=g.2.2.1) (i':=14) (j':=0) 15 0 1 Z Z Z Z Z Z Z ⟨ae.1,(by have n:=ae.2;have p:=bU;(try simp only[zA1]at n p);(try simp only[zA1]);omega)⟩) ?_;refine aP ?_;exact cB (List.set a.2.2.2 (Int.toNat ((at' b a.1).2.1)) (List.set (at' a.2.2.2 ((at' b a.1).2.1)) (Int.toNat ((at' b a.1).2.2)) ((at' (at' a.2.2.2 ((at' b a.1).2.1)) ((at' b a.1).2.2))++([(([]:bT)++(at' a.2.1 ((at' b a.1).2.1)))])))) ((List.set g.2.1 (Int.toNat ((at' b a.1).2.1)) (List.set (at' g.2.1 ((at' b a.1).2.1)) (Int.toNat ((at' b a.1).2.2)) bg)),(List.set g.2.2.1 (Int.toNat ((at' b a.1).2.1)) (List.set (at' g.2.2.1 ((at' b a.1).2.1)) (Int.toNat ((at' b a.1).2.2)) ((at' (at' g.2.2.1 ((at' b a.1).2.1)) ((at' b a.1).2.2))++[bC])))) h SF (a_.ix [5,6,7,8,9,10,11,12,13] Z Z) (iB [0,5,6,7,8,9,10,11,12,13,14,15] Z)
      refine cL ?_;exact cB (a.2.2.2) (g.2.1,g.2.2.1) h SF (a_.ix [4,5,6,7,8,9,10,11,12] Z Z) (iB [11,0,1,2,3,4,5,6,7,8,9,10] Z)
     intro ax ap h;unfold Ay at h;refine aS<|aG ?_;exact jX (a.2.1,ax,a.2.2.1) (am,ap.1,ap.2,g.1) h (.inl Z) (Fa.r0 Z) Z (a_.refl _) (iB [1,2,3,4,5,6,7,8,9,10,11,0] Z)
    refine cL<|aN ?_;refine rP [0,1,0,7,15,0,32,127,255,511,0,0,0,4096,15360,32767,65535] 15 mixedOrders ?_;refine cC Z<|eQ 2 Z<|aV Z<|cQ h λbd h=>bA Z .nil (eV 5 Z) (bK Z Z (b_ Z) Z Z bd) aL.z<|bA Z .nil (eV 5 Z) (bS Z (b_ Z) Z Z bd) aL.z<|cC Z<|eQ 0 Z<|cQ h λdm h=>bA Z .nil (eV 5 Z) (bG Z Z (zBc (b_ Z) bd.1 bd.2) Z Z dm) aL.z<|eN Z (dC Z Z Z Z Z)<|bA Z .nil (eV 5 Z) (eL Z (zBc (b_ Z) bd.1 bd.2) Z Z Z gA dm) aL.z<|jA 2 Z<|aV Z<|cC Z<|eQ 0 Z<|eI h λy fv h=>let e5:=((at' (at' a.2.2.2 ((at' (at' D.2 ((at' b a.1).2.1)) ((at' b a.1).2.2)).1)) y).length);zBd Z Z Z (zBb aab (PE U v2 v3 z4 y fv) Z (iB [4,5] Z)) Z (λfA=>(nK [([],[5]),([],[5]),([0],[]),([],[5]),([],[5]),([2],[])] Z)) λfA=>bN 15 Z Z<|aC Z<|aC Z<|aP<|aU<|bV Z<|dK 1 Z<|aA Z<|cQ h λI h=>aB (bK Z Z (gO (i:=11) (q:=12) (j:=11) Z Z Z) Z Z I) Z<|bD (kC 12 Z) λee=>bD (aX (yT Z)) λef=>aB (gE 11 Z Z (ee.trans ef) Z Z I) Z<|aA Z<|cQ h λbe h=>aB (bK Z Z (zA (q:=12) (j:=11) Z Z I.1 (by first|exact I.2|simpa using I.2)) Z Z be) Z ?_
    refine bD (aX (yT Z)) λcm=>?_;refine bD (j_ (k:=((at' (at' D.2 ((at' b a.1).2.1)) ((at' b a.1).2.2)).1)) 12 Z ⟨I.1,(by have n:=I.2;have p:=cm;(try simp only[zA1]at n p);(try simp only[zA1]);omega)⟩) λeg=>?_;refine bD (aX (bO (yT Z) I.1 (by first|exact I.2|simpa using I.2))) λeh=>?_;refine aB (cI (f:=λx=>x) Z (nN (q:=12) Z I.1 (by have n:=I.2;have p:=cm;(try simp only[zA1]at n p);(try simp only[zA1]);omega)) Z Z Z hZ ⟨be.1,(by have n:=be.2;have p:=eg;have q2:=eh;(try simp only[zA1]at n p q2);(try simp only[zA1]);omega)⟩) Z ?_;refine aB (dM Z (Bw (q:=12) (j:=11) Z Z ⟨I.1,by first|exact I.2|simpa using I.2⟩ ⟨be.1,by first|exact be.2|simpa using be.2⟩) Z) Z<|aB (wY Z Z) Z<|aP ?_;refine eG h Z (λh=>?_) λh=>?_
    ·refine aN<|jW (B:=Bp) (λay=>xS D b a a3 y ay=some r) (λay a7=>[(8,vP e8),(13,vI ((at' (at' D.2 ((at' b a.1).2.1)) ((at' b a.1).2.2)).1)),(14,vI (y))]) (λay a7=>[b0,br,S,a4,V,T,af,fQ bJ.raw aw.1 a7,a5,bq]) (λay a7=>[wX aM a7 ay,bt,N,O,al,Sl aM v2 D.1,L,M,ao,an,Sl dY J b,bs]) ?_ ?_
     ·refine aU<|bV Z<|dK 0 Z<|cH Z<|aP ?_;refine eG h Z (λh=>?_) λh=>?_
      ·refine rP [0,1,0,7,15,0,32,0,128,0,896,1920,0,8064,16256,32640,65408,131071,262143] 17 mixedOrders ?_;refine cC Z<|eQ 1 Z<|aV Z<|cQ h λR h=>aZ (cE (fM (i:=9) (q:=10) (j:=10) Z Z Z)) λeu=>eN Z (cO Z Z eu Z Z R)<|aZ (dQ 10 Z) λev=>aZ (aX (Gw Z)) λew=>bA Z (a_.cons 9 Z .nil) .nil (gE 0 Z Z (ev.trans ew) Z Z R) aL.z<|cC Z<|eQ 0 Z<|cC Z<|eQ 1 Z<|aV Z<|cQ h λm h=>aZ (cE (gO (i:=11) (q:=12) (j:=11) Z Z Z)) λex=>eN Z (cO Z Z ex Z Z m)<|aZ (kC 12 Z) λey=>aZ (aX (yT Z)) λez=>bA Z (a_.cons 11 Z .nil) .nil (gE 0 Z Z (ey.trans ez) Z Z m) aL.z<|aV Z<|cQ h λE h=>aZ (cE (zA (q:=12) (j:=11) Z Z m.1 (by first|exact m.2|simpa using m.2))) λeA=>?_;refine eN Z (cO Z Z eA Z Z E)<|aZ (aX (yT Z)) λcq=>?_;refine aZ (j_ (k:=((at' (at' D.2 ((at' b a.1).2.1)) ((at' b a.1).2.2)).1)) 12 Z ⟨m.1,(by have n:=m.2;have p:=cq;(try simp only[zA1]at n p);(try simp only[zA1]);omega)⟩) λeD=>?_;refine aZ (aX (bO (yT Z) m.1 (by first|exact m.2|simpa using m.2))) λeE=>?_;refine bA Z (a_.cons 12 Z .nil) .nil (cI (f:=λx=>x) Z (nN (q:=0) Z m.1 (by have n:=m.2;have p:=cq;(try simp only[zA1]at n p);(try simp only[zA1]);omega)) Z Z Z hZ ⟨E.1,(by have n:=E.2;have p:=eD;have q2:=eE;(try simp only[zA1]at n p q2);(try simp only[zA1]);omega)⟩) aL.z<|cQ h λak h=>aZ (cE (Bw (q:=12) (j:=11) Z Z ⟨m.1,by first|exact m.2|simpa using m.2⟩ ⟨E.1,by first|exact E.2|simpa using E.2⟩)) λeF=>eN Z (cO Z Z eF Z Z ak)<|aZ (aX (yT Z)) λeH=>?_;refine aZ (aX (bO (yT Z) m.1 (by first|exact m.2|simpa using m.2))) λeJ=>?_;refine aZ (aX (bO (bO (yT Z) m.1 (by first|exact m.2|simpa using m.2)) E.1 (by first|exact E.2|simpa using E.2))) λeK=>?_;refine bA Z (a_.cons 12 Z .nil) .nil (cI (f:=λx=>x) Z (Kd (q:=0) Z ⟨m.1,(by have n:=m.2;have p:=eH;(try simp only[zA1]at n p);(try simp only[zA1]);omega)⟩ ⟨E.1,(by have n:=E.2;have p:=eJ;(try simp only[zA1]at n p);(try simp only[zA1]);omega)⟩) Z Z Z hZ ⟨ak.1,(by have n:=ak.2;have p:=eK;(try simp only[zA1]at n p);(try simp only[zA1]);omega)⟩) aL.z ?_;refine bN 17 Z Z<|cQ h λc6 h=>aB (bK Z Z (Dj (q:=10) (j:=10) Z Z R.1 (by first|exact R.2|simpa using R.2)) Z Z c6) Z ?_;refine bD (Know.one ((bO (bO (bO (yT Z) m.1 (by first|exact m.2|simpa using m.2)) E.1 (by first|exact E.2|simpa using E.2)) ak.1 (by first|exact ak.2|simpa using ak.2)))) λc1=>?_;refine bD (aX (Gw Z)) λeM=>?_;refine bD (aX (bO (Gw Z) R.1 (by first|exact R.2|simpa using R.2))) λeO=>?_;refine bZ (cG (gJ (Int.toNat ((at' b a.1).2.1)) (Gw Z) (gJ (Int.toNat ((at' b a.1).2.2)) (bO (Gw Z) R.1 (by first|exact R.2|simpa using R.2)) (bO (bO (bO (yT Z) m.1 (by first|exact m.2|simpa using m.2)) E.1 (by first|exact E.2|simpa using E.2)) ak.1 (by first|exact ak.2|simpa using ak.2))))) ?_;refine tP (zM (us:=[at' (at' (at' g.2.2.1 ((at' (at' D.2 ((at' b a.1).2.1)) ((at' b a.1).2.2)).1)) y) (0:Int)]) (o:=0) (q:=1) (k:=((at' b a.1).2.1)) 10 (at' (at' (at' g.2.2.1 ((at' (at' D.2 ((at' b a.1).2.1)) ((at' b a.1).2.2)).1)) y) (0:Int)) ⟨R.1,(by have n:=R.2;have p:=eM;(try simp only[zA1]at n p);(try simp only[zA1]);omega)⟩ ⟨c6.1,(by have n:=c6.2;have p:=eO;(try simp only[zA1]at n p);(try simp only[zA1]);omega)⟩ Z Z Z Z (by rw[iF c1]) Z Z Z (fY c1 Z) Z) λf0=>?_;refine aP ?_;exact cB (List.set a.2.2.1 (Int.toNat ((at' b a.1).2.1)) (List.set (at' a.2.2.1 ((at' b a.1).2.1)) (Int.toNat ((at' b a.1).2.2)) (at' (at' (at' a.2.2.2 ((at' (at' D.2 ((at' b a.1).2.1)) ((at' b a.1).2.2)).1)) y) (0:Int)))) (List.set g.1 (Int.toNat ((at' b a.1).2.1)) (List.set (at' g.1 ((at' b a.1).2.1)) (Int.toNat ((at' b a.1).2.2)) (at' (at' (at' g.2.2.1 ((at' (at' D.2 ((at' b a.1).2.1)) ((at' b a.1).2.2)).1)) y) (0:Int)))) h SF (a_.ix [1,4,5,6,7,8,9,10,11,12] Z Z) (iB [0,1,2,3,4,5,6,7,8,9,10,12] Z)
      refine cL ?_;exact cB (a.2.2.1) (g.1) h SF (a_.ix [1,4,5,6,7,8,9,10,11,12] Z Z) (iB [10,0,1,2,3,4,5,6,7,8,9,11] Z)
     intro ay a7 h;refine rP [0,1,0,7,15,0,0,64,0,448,960,0,4032,8128,16320,32767,65535] 15 mixedOrders ?_;refine cC Z<|eQ 0 Z<|aV Z<|cQ h λQ h=>aZ (cE (gO (i:=8) (q:=9) (j:=11) Z Z Z)) λei=>eN Z (cO Z Z ei Z Z Q)<|aZ (kC 9 Z) λej=>aZ (aX (yT Z)) λek=>bA Z (a_.cons 8 Z .nil) .nil (gE 0 Z Z (ej.trans ek) Z Z Q) aL.z<|aV Z<|cC Z<|eQ 0 Z<|aV Z<|cQ h λv h=>aZ (cE (gO (i:=8) (q:=9) (j:=11) Z Z Z)) λel=>eN Z (cO Z Z el Z Z v)<|aZ (kC 9 Z) λem=>aZ (aX (yT Z)) λen=>bA Z (a_.cons 8 Z .nil) .nil (gE 0 Z Z (em.trans en) Z Z v) aL.z<|aV Z<|cQ h λY h=>aZ (cE (zA (q:=9) (j:=11) Z Z v.1 (by first|exact v.2|simpa using v.2))) λeo=>?_;refine eN Z (cO Z Z eo Z Z Y)<|aZ (aX (yT Z)) λcn=>?_;refine aZ (j_ (k:=((at' (at' D.2 ((at' b a.1).2.1)) ((at' b a.1).2.2)).1)) 9 Z ⟨v.1,(by have n:=v.2;have p:=cn;(try simp only[zA1]at n p);(try simp only[zA1]);omega)⟩) λep=>?_;refine aZ (aX (bO (yT Z) v.1 (by first|exact v.2|simpa using v.2))) λeq=>?_;refine bA Z (a_.cons 9 Z .nil) .nil (cI (f:=λx=>x) Z (nN (q:=0) Z v.1 (by have n:=v.2;have p:=cn;(try simp only[zA1]at n p);(try simp only[zA1]);omega)) Z Z Z hZ ⟨Y.1,(by have n:=Y.2;have p:=ep;have q2:=eq;(try simp only[zA1]at n p q2);(try simp only[zA1]);omega)⟩) aL.z<|cQ h λdn h=>bA Z (a_.cons 9 Z .nil) (eV 11 Z) (Vo Z Z (Bw (q:=0) (j:=0) Z Z ⟨v.1,by first|exact v.2|simpa using v.2⟩ ⟨Y.1,by first|exact Y.2|simpa using Y.2⟩) Z Z dn) aL.z<|bN 15 Z Z<|cQ h λbm h=>aB (bK Z Z (zA (q:=9) (j:=11) Z Z Q.1 (by first|exact Q.2|simpa using Q.2)) Z Z bm) Z ?_;refine bD (kC 9 Z) λfG=>bD (aX (yT Z)) λco=>?_;refine bD (j_ (k:=((at' (at' D.2 ((at' b a.1).2.1)) ((at' b a.1).2.2)).1)) 9 Z ⟨v.1,(by have n:=v.2;have p:=co;(try simp only[zA1]at n p);(try simp only[zA1]);omega)⟩) λer=>?_;refine bZ (CX (k:=((at' (at' D.2 ((at' b a.1).2.1)) ((at' b a.1).2.2)).1)) 9 Z ⟨v.1,(by have n:=v.2;have p:=co;(try simp only[zA1]at n p);(try simp only[zA1]);omega)⟩) ?_;refine bD (aX (bO (yT Z) v.1 (by first|exact v.2|simpa using v.2))) λes=>?_;refine bZ (cG (bO (bO (yT Z) v.1 (by first|exact v.2|simpa using v.2)) Y.1 (by first|exact Y.2|simpa using Y.2))) ?_;refine bZ (Cu (k:=y) 1 Z ⟨Y.1,(by have n:=Y.2;have p:=es;(try simp only[zA1]at n p);(try simp only[zA1]);omega)⟩) ?_;refine bD (aX (b_ Z)) λet=>bZ (cG (Is (Int.toNat (1:Int)) (b_ Z)))<|bZ (Vm 0 Z et dn)<|bD (tM (cK (i:=0) (j:=0) Z Z)) λc0=>bD (aX (aI.fact 13 Z)) λbW=>?_;refine bD (aX (bO (aI.fact 13 Z) Q.1 (by first|exact Q.2|simpa using Q.2))) λcp=>?_;refine bZ (cG (gJ (Int.toNat ((at' (at' D.2 ((at' b a.1).2.1)) ((at' b a.1).2.2)).1)) (aI.fact 13 Z) (gJ (Int.toNat y) (bO (aI.fact 13 Z) Q.1 (by first|exact Q.2|simpa using Q.2)) (b_ Z)))) ?_;refine bZ (Cs (k:=y) 2 0 Z Z Z ⟨bm.1,(by have n:=bm.2;have p:=bW;have q2:=cp;(try simp only[zA1]at n p q2);(try simp only[zA1]);omega)⟩) ?_;refine tP (lQ (us:=[slq (at' (at' g.2.1 ((at' (at' D.2 ((at' b a.1).2.1)) ((at' b a.1).2.2)).1)) y) (Int.toNat (1:Int)) e5 1]) (o:=0) (q:=1) 0 (slq (at' (at' g.2.1 ((at' (at' D.2 ((at' b a.1).2.1)) ((at' b a.1).2.2)).1)) y) (Int.toNat (1:Int)) e5 1) ⟨bm.1,(by have n:=bm.2;have p:=bW;have q2:=cp;have q3:=er;(try simp only[zA1]at n p q2 q3);(try simp only[zA1]);omega)⟩ Z Z Z Z (by rw[show(slq (at' (at' g.2.1 ((at' (at' D.2 ((at' b a.1).2.1)) ((at' b a.1).2.2)).1)) y) (Int.toNat (1:Int)) ((at' (at' a.2.2.2 ((at' (at' D.2 ((at' b a.1).2.1)) ((at' b a.1).2.2)).1)) y).length) 1).cells = #[slq (at' (at' g.2.1 ((at' (at' D.2 ((at' b a.1).2.1)) ((at' b a.1).2.2)).1)) y) (Int.toNat (1:Int)) ((at' (at' a.2.2.2 ((at' (at' D.2 ((at' b a.1).2.1)) ((at' b a.1).2.2)).1)) y).length) 1]from iF c0]) Z Z Z (fY c0 Z) Z) λfX=>?_;refine bZ (DV (k:=((at' (at' D.2 ((at' b a.1).2.1)) ((at' b a.1).2.2)).1)) (vs:=d.2.2.2.2.2.2.1) (wss:=g.2.1) (xsss:=g.2.2.1) (i':=10) (j':=0) 11 0 1 Z Z Z Z Z Z Z ⟨Q.1,(by have n:=Q.2;have p:=bW;(try simp only[zA1]at n p);(try simp only[zA1]);omega)⟩) ?_;refine eS ?_;exact jX (a.2.1,(List.set a.2.2.2 (Int.toNat ((at' (at' D.2 ((at' b a.1).2.1)) ((at' b a.1).2.2)).1)) (List.set (at' a.2.2.2 ((at' (at' D.2 ((at' b a.1).2.1)) ((at' b a.1).2.2)).1)) (Int.toNat y) (List.drop (Int.toNat (1:Int)) (at' (at' a.2.2.2 ((at' (at' D.2 ((at' b a.1).2.1)) ((at' b a.1).2.2)).1)) y)))),ay) (am,(List.set g.2.1 (Int.toNat ((at' (at' D.2 ((at' b a.1).2.1)) ((at' b a.1).2.2)).1)) (List.set (at' g.2.1 ((at' (at' D.2 ((at' b a.1).2.1)) ((at' b a.1).2.2)).1)) (Int.toNat y) (slq (at' (at' g.2.1 ((at' (at' D.2 ((at' b a.1).2.1)) ((at' b a.1).2.2)).1)) y) (Int.toNat (1:Int)) e5 1))),(List.set g.2.2.1 (Int.toNat ((at' (at' D.2 ((at' b a.1).2.1)) ((at' b a.1).2.2)).1)) (List.set (at' g.2.2.1 ((at' (at' D.2 ((at' b a.1).2.1)) ((at' b a.1).2.2)).1)) (Int.toNat y) (List.drop (Int.toNat (1:Int)) (at' (at' g.2.2.1 ((at' (at' D.2 ((at' b a.1).2.1)) ((at' b a.1).2.2)).1)) y)))),a7) h (.inr Z) (Fa.r0 Z) Z (a_.ix [1,2,3,4,5,6,7,8,9] Z Z) (iB [4,5,6,7,8,9,10,11,12,13,3,0] Z)
    refine dW ?_;exact jX (a.2.1,a.2.2.2,a.2.2.1) (am,g.2.1,g.2.2.1,g.1) h (.inr Z) (Fa.r0 Z) Z (a_.ix [4,5,6,7,8,9,10,11,12] Z Z) (aH.refl _ _)
   intro a0 aj h;unfold pS at h;refine eS<|lA<|aR<|aA Z<|cN Z<|aC Z<|aP ?_;exact xD ((wI .i64 (a.1+(1:Int))),a0.1,a0.2.2,a0.2.1) (aj.2.2.2,aj.2.1,aj.2.2.1,aj.1) h SF Z
  refine eP ?_;exact cB (a.2.1,a.2.2.1,a.2.2.2) (g.1,g.2.1,g.2.2.1,am) h SF (a_.ix [0,1,2,5,6,7,8] Z Z) (aH.refl _ _)
 intro aK X h;let dA:=tC bJ.raw au X.2.1 X.2.2.1;unfold De at h;refine aU<|cM 2 Z<|bD (tM (cK (i:=0) (j:=0) Z Z)) λff=>bD (tM (fM (i:=3) (q:=4) (j:=10) Z Z Z)) λfg=>bD (tM (gO (i:=5) (q:=6) (j:=11) Z Z Z)) λfh=>cD 1 (vs:=[d.1,d.2.1,d.2.2.1]) Z Z (fY ff (fY fg (fY fh Z))) Z Z Z<|aC Z<|aP<|aS<|bZ (fZ 0 Z (cK (i:=0) (j:=0) Z Z))<|bZ (tD [af,fQ bJ.raw aw.1 X.1] [dB,a4,a5,dA] (a_.ix [2,3,0,1,4,5] Z Z) (fM (i:=0) (q:=1) (j:=11) Z Z Z))<|bZ (tD [a5,dA] [dB,a4] (a_.ix [2,3,0,1] Z Z) (gO (i:=0) (q:=1) (j:=13) Z Z Z)) ?_;cases h;exact gY (d.1,(List.zip X.2.2.2 aK.1),d.2.1,(Z3 aw.1 X.1 aK.2.1),ar,(Z4 au X.2.1 X.2.2.1 aK.2.2)) Z Z (RV.cell 0 Z Z Z Z) (RV.tmp Z) .nil (iB [2,1,0] Z)
def Ai (U:Nat) (b:fE) (e:cJ) (f:Int) (c:gX) (d:DO):Option kW:=
 Option.bind (Cw U ((b.1,b.2.1,b.2.2)) ((e.1,e.2)) f ((c.1,c.2.1,c.2.2)) ([(d.1,d.2.1,d.2.2)])) λa=>(some (((a.1.1,a.1.2.1,a.1.2.2)),a.2))
theorem acT:bB Tryz.prog 15:=Tryz.call15
theorem PQ (U:Nat) {d:fE} {v:cJ} {w:Int} {o:gX} {a:DO} (k m p q:V0) (y:kX) (s:V0) (z:nG) (t:V0) (A:CV) (u:V0) (n:CU) (r:UP) (h:Ai U d v w o a=some r):
  bE Tryz.prog 15 #[Value.agg #[vS (d.1),k,m],Value.agg #[p,q],vI (w),Value.agg #[s,t,u],Value.agg #[vI (a.1),vI (a.2.1),vI (a.2.2)]] [Sl aE k d.2.1,Sl aD m d.2.2,PF (Value.agg #[vS d.1,k,m]),Sl aM p v.1,S2 aY q y v.2,S2 aM s z o.1,S3 aM t A o.2.1,S4 aM u n o.2.2] (λx:Rx=>Value.tuple #[Value.agg #[x.1,x.2.2.1,x.2.2.2.2.1],vI (r.2)]) (λx l=>l) (λx l=>S2 aM x.1 x.2.1 r.1.1::S3 aM x.2.2.1 x.2.2.2.1 r.1.2.1::S4 aM x.2.2.2.2.1 x.2.2.2.2.2 r.1.2.2::l):=by
 refine bE.of Tryz.func15 Z Tryz.ntmps15 Z λc=>?_;refine aU<|aJ (aQ.box (cs:=[vS (d.1),k,m]) Z Z) Z λE=>aJ (aQ.box (cs:=[p,q]) Z Z) Z λF=>aJ (aQ.box (cs:=[s,t,u]) Z Z) Z λG=>aJ (aQ.box (cs:=[vI (a.1),vI (a.2.1),vI (a.2.2)]) Z Z) Z λH=>aJ (aQ.alloc (cs:=[cW,cW,cW]) Z Z) Z λI=>aC Z<|aP<|aU<|cM 4 Z<|cM 3 Z<|aA Z<|cM 2 Z<|cM 1 Z<|aJ (cX (e:=Ge) ([((a.1,a.2.1,a.2.2))]) [(0,Value.agg #[vI (a.1),vI (a.2.1),vI (a.2.2)])] Z Z Z Z (QD (vI (a.1)) (vI (a.2.1)) (vI (a.2.2))) Z Z Z) Z λC=>bZ (fZ 0 Z (dR (aI.res 0 Z) Cq))<|eI h λB D h=>aJ (aQ.call acZ (Rt U k m p q y s z t A u n C B D) Z (gQ.cons (zA0 (i:=1) Z) (gQ.cons (zA0 (i:=2) Z) (gQ.cons (zA0 (i:=3) Z) (gQ.cons (zA0 (i:=4) Z) (gQ.cons (zA0 (i:=5) Z) (gQ.cons (zA0 (i:=6) Z) (gQ.cons (zA0 (i:=7) Z) (gQ.cons (zA0 (i:=8) Z) (eV 0 Z))))))))) (λ_ _=>rfl) (λ_ _=>rfl)) Z λb=>iN Z<|iN Z<|bD (tM (b_ Z)) λf=>bD (tM (mR Z)) λg=>bD (tM (zI Z)) λj=>cD 0 (vs:=[b.1,b.2.2.1,b.2.2.2.2.1]) Z Z (fY f (fY g (fY j Z))) Z Z Z<|aC Z<|aP<|aS ?_;cases h;exact gY (b.1,b.2.1,b.2.2.1,b.2.2.2.1,b.2.2.2.2.1,b.2.2.2.2.2) Z Z (RV.cell 0 Z Z Z Z) (RV.tmp Z) .nil (iB [0,1,2] Z)
def wJ (a:Int):Option (Int):=
 some (a)
def qX (b:fF) (a:fW->Option (Int)) (c:Int):Option (Int):=
 a (c,(wI .i64 (b.2+(1:Int))))
def BK (U:Nat) (d:fE) (f:cJ) (a:fF) (b:fW->Option (Int)) (c:bQ):Option (Int):=
 Option.bind (Ag U ((d.1,d.2.1,d.2.2)) ((f.1,f.2)) c a.2) λe=>(if(0:Int)<=e then(ck (0<=(wI .u64 a.2)) (qX a b (Xe .u32 a.1 (MS .u32 (1:Int) (wI .u64 a.2)))))else(qX a b (a.1)))
def qY (U:Nat) (d:fE) (e:cJ) (b:fF) (a:fW->Option (Int)) (c:bQ):Option (Int):=
 BK U d e b a (c)
def qZ (U:Nat) (g:fE) (c:cJ) (f:gX) (a:fF) (d:fW->Option (Int)) (b:Int×bQ) (e:(Int×bQ)->Option (Int)):Option (Int):=
 ck (0<=a.2/\a.2<(c.2.length:Int)) (if b.1<((at' c.2 a.2).length:Int)then(ck (0<=a.2/\a.2<(c.2.length:Int)) (ck (0<=b.1/\b.1<((at' c.2 a.2).length:Int)) (ck (0<=a.2/\a.2<(f.2.1.length:Int)) (ck (0<=b.1/\b.1<((at' f.2.1 a.2).length:Int)) (ck ((List.length ([]:bT):Int)+((at' (at' f.2.1 a.2) b.1).length:Int)<=1099511627) (ck (0<=((at' (at' c.2 a.2) b.1).1)/\((at' (at' c.2 a.2) b.1).1)<(b.2.length:Int)) (e ((wI .i64 (b.1+(1:Int))),(List.set b.2 (Int.toNat ((at' (at' c.2 a.2) b.1).1)) (([]:bT)++(at' (at' f.2.1 a.2) b.1)))))))))))else(qY U g c a d (b.2)))
def jQ (U:Nat) (e:fE) (f:cJ) (c:gX) (a:fF) (b:fW->Option (Int)):Option (Int):=
 if a.2<(c.1.length:Int)then(Option.bind (mE U c.1) λd=>(bL (qZ U e f c a b) U ((0:Int),d)))else(wJ (a.1))
def m_ (U:Nat) (a:fE) (c:cJ) (b:gX):Option (Int):=
 Option.bind (kF U ((a.1,a.2.1,a.2.2)) ((c.1,c.2)) (8:Int) ((b.1,b.2.1,b.2.2))) λd=>(if(!d)=true then(some (0:Int))else(bL (jQ U a c b) U ((0:Int),(0:Int))))
theorem Xg:bB Tryz.prog 21:=Tryz.call21
theorem F_ (U:Nat) {f:fE} {u:cJ} {C:gX} (G H y I:V0) (z4:kX) (J:V0) (z6:nG) (N:V0) (z8:CV) (O:V0) (Y:CU) (r:Int) (h:m_ U f u C=some r):
  bE Tryz.prog 21 #[Value.agg #[vS (f.1),G,H],Value.agg #[y,I],Value.agg #[J,N,O]] [Sl aE G f.2.1,Sl aD H f.2.2,PF (Value.agg #[vS f.1,G,H]),Sl aM y u.1,S2 aY I z4 u.2,S2 aM J z6 C.1,S3 aM N z8 C.2.1,S4 aM O Y C.2.2] (λx:Unit=>vU (r)) (λx l=>l) (λ_ l=>l):=by
 let X:=S2 aM J z6 C.1;let W:=S2 aY I z4 u.2;let V:=S3 aM N z8 C.2.1;let T:=S4 aM O Y C.2.2;let S:=PF (Value.agg #[vS f.1,G,H]);refine bE.of Tryz.func21 Z Tryz.ntmps21 Z λc=>?_;refine aU<|aJ (aQ.box (cs:=[vS (f.1),G,H]) Z Z) Z λb1=>let D:=bM b1 [vS (f.1),G,H] 36;aJ (aQ.box (cs:=[y,I]) Z Z) Z λb2=>let F:=bM b2 [y,I] 31;aJ (aQ.box (cs:=[J,N,O]) Z Z) Z λb3=>let E:=bM b3 [J,N,O] 43;aC Z<|aP<|aU<|aC Z<|aP<|aN<|aU<|cM 2 Z<|cM 1 Z<|cM 0 Z<|eI h λr4 w5 h=>aJ (zBb OH (Cn U G H y I z4 J z6 N z8 O Y r4 w5) Z (iB [0,1,2,3,4,5,6,7] Z)) Z λx6=>aB (jG Z) Z<|aP ?_
 refine rR h Z (λ_ h=>?_) λ_ h=>?_
 ·refine aU<|aC Z<|aP<|aS<|aG ?_;cases h;exact mO Z
 refine cL<|aN<|eB (λa9=>wJ a9=some r) (λa9 aa=>[(7,vU (a9))]) (λa9 aa=>[]) ?_ ?_
 ·refine aU<|aC Z<|aP<|aT<|eW (jQ U f u C) (λa ab=>[(3,vP b1),(4,vP b2),(5,vP b3),(7,vU (a.1)),(8,vI (a.2))]) (λa ab=>[E,F,D]) ((0:Int),(0:Int)) () h SF (a_.refl _) ?_;intro am a ab h;let M:=(bL (jQ U f u C) am)
  refine aN<|aU<|aA Z<|bV Z<|dK 0 Z<|aB (dM Z (zJ Z) Z) Z<|cU Z<|aP ?_;refine eG h Z (λh=>?_) λh=>?_
  ·refine cL<|aN<|eB (λp=>qX a M p=some r) (λp ac=>[(3,vP b1),(4,vP b2),(5,vP b3),(7,vU (p)),(8,vI (a.2))]) (λp ac=>[E,F,D]) ?_ ?_
   ·refine aT<|aN ?_;refine rP [0,0,0,0,0,28,0,127,255] 7 mixedOrders ?_;refine jA 2 Z<|jA 1 Z<|jA 1 Z<|jA 0 Z<|aV Z<|Fe (A:=bQ) (B:=DN) (vs:=[Value.agg #[y,I],Value.agg #[J,N,O],vI (a.2)]) (λk=>BK U f u a M k=some r) (λk d=>d.1) (λk d=>[Ar bJ.raw d.1 d.2,E,F,D]) (λk d=>[mT aM d.2 k,Sl aE G f.2.1,Sl aD H f.2.2,S,Sl aM y u.1,W,X,V,T]) Z Z Z (pJ.fn (show bB Tryz.prog 59 from Tryz.call59) Z) Tryz.func59 Z Tryz.ntmps59 Z Z (λ_ _=>(nK [([2],[]),([3],[])] Z)) ?_ ?_
    ·refine aU<|aJ (aQ.box (cs:=[y,I]) Z Z) Z λad=>aJ (aQ.box (cs:=[J,N,O]) Z Z) Z λae=>aC Z<|aP<|aU<|bV Z<|dK 0 Z<|eI h λaj aq h=>aJ (zBb Iz (AU U J z6 aj aq) Z (iB [5] Z)) Z λw=>bZ (fZ 1 Z (lH (j:=0) Z iY))<|aC Z<|aP<|aN<|jW (B:=fL) (λm=>qY U f u a M m=some r) (λm s=>[(7,w.1)]) (λm s=>[Ar bJ.raw w.1 s,E,F,D]) (λm s=>[mT aM s m,Sl aE G f.2.1,Sl aD H f.2.2,S,Sl aM y u.1,W,X,V,T]) ?_ ?_
     ·refine aU<|aC Z<|aP<|aT<|nH (B:=fL) (qZ U f u C a M) (λb n=>[(2,vI (a.2)),(3,vP ad),(4,vP ae),(7,w.1),(8,vI (b.1))]) (λb n=>[Ar bJ.raw w.1 n,bM ae [J,N,O] 43,bM ad [y,I] 31,E,F,D]) (λb n=>[mT aM n b.2,Sl aE G f.2.1,Sl aD H f.2.2,S,Sl aM y u.1,W,X,V,T]) ((0:Int),aj) (w.2) h SF (a_.refl _) (aH.refl _ _) ?_;intro ar b n h;let R:=(Int.toNat ((at' (at' u.2 a.2) b.1).1))
      refine aN<|aU<|aA Z<|bV Z<|dK 2 Z<|aA Z<|cQ h λK h=>aB (bK Z Z (zJ Z) Z Z K) Z<|aB (bS Z (zJ Z) Z Z K) Z<|aB (fH Z (zBc (zJ Z) K.1 K.2) Z) Z<|cU Z<|aP ?_;refine eG h Z (λh=>?_) λh=>?_
      ·refine cL<|aN<|aT ?_;refine rP [0,0,2,0,14,30,0,126,254,510,0,0,2048,0,14336,30720,0,129024,260096,523264,1048575,2097151] 20 mixedOrders ?_;refine aV Z<|cC Z<|eQ 2 Z<|aV Z<|cQ h λt h=>bA Z .nil (eV 5 Z) (bK Z Z (b_ Z) Z Z t) aL.z<|bA Z .nil (eV 5 Z) (bS Z (b_ Z) Z Z t) aL.z<|aV Z<|cQ h λai h=>bA Z .nil (eV 5 Z) (bG Z Z (zBc (b_ Z) t.1 t.2) Z Z ai) aL.z<|eN Z (dC Z Z Z Z Z)<|bA Z .nil (eV 5 Z) (eL Z (zBc (b_ Z) t.1 t.2) Z Z Z gA ai) aL.z<|zBd Z Z Z (cX (e:=fT) ([]:bT) [] Z Z Z Z ((λi h=>by simp at h;subst h;rfl)) Z Z Z) Z (λao=>(nK [([],[5]),([],[5]),([],[5]),([],[5]),([3],[])] Z)) λao=>eN Z (cT Z Z Z Z Z)<|bA Z (a_.cons 2 Z .nil) .nil (dL 0 Z Z Z Z Z) (aL.h (a_.ix [1] Z Z) .nil aL.z)<|eN Z (dG Z)<|cQ h λg h=>aZ (cE (z_ Z)) λaf=>eN Z (cO Z Z af Z Z g)<|bA Z .nil (eV 7 Z) (c_ Z (b_ Z) Z Z g) (aL.h .nil (eV 7 Z) aL.z)<|eN Z (dG Z)<|cQ h λL h=>aZ (cE (bR (z_ Z) g.1 g.2)) λag=>?_;refine eN Z (cO Z Z ag Z Z L) ?_;refine bA Z .nil (eV 7 Z) (bS Z (bR (b_ Z) g.1 g.2) Z Z L) (aL.h .nil (eV 7 Z) aL.z)<|cQ h λal h=>zBd Z Z Z (jN 0 iY Z Z Z (zBc (bR (z_ Z) g.1 g.2) L.1 L.2) Z Z Z Z al Z) Z (λv=>(nK [([],[5]),([],[5]),([],[5]),([],[5]),([3],[])] Z)) λv=>?_;refine bN 20 Z Z<|cQ h λQ h=>aB (bK Z Z (cK (i:=1) (j:=0) Z Z) Z Z Q) Z<|bD (Know.one ((dR (aI.res 0 Z) iY))) λP=>bZ (fZ 0 Z (dR (aI.res 0 Z) iY))<|bD (aX (mR Z)) λah=>bZ (cG (gJ R (mR Z) (b_ Z))) ?_;refine tP (lQ (us:=[v]) (o:=0) (q:=1) 0 v ⟨Q.1,(by have q0:=Q.2;have q1:=ah;(try simp only[zA1]at q0 q1⊢);omega)⟩ Z Z Z Z (by rw[show(v).cells = #[v]from iF P]) Z Z Z (fY P Z) Z) λav=>?_;refine eS<|lA<|aR<|aA Z<|cN Z<|aC Z<|aP ?_;exact iP ((wI .i64 (b.1+(1:Int))),(List.set b.2 R (([]:bT)++(at' (at' C.2.1 a.2) b.1)))) (List.set n R v) h SF (a_.refl _) (iB [0,3,4,5,6,7,8,9,10] Z)
      refine eP ?_;exact cB (b.2) (n) h SF (a_.ix [0,3,4,5] Z Z) (aH.refl _ _)
     intro m s h;unfold qY at h;refine aU<|aA Z<|aC Z<|aP<|aS ?_;exact jX (m) (w.1,s) h (.inl Z) (Fa.r1 Z (RV.tmp Z)) Z (a_.refl _) (aH.refl _ _)
    intro k d h;refine eN Z (dG Z)<|bN 7 Z Z<|eI h λan ap h=>aJ (zBb ade (PM U G H y I z4 d.1 ((List.zip d.2 k)) an ap) Z (aH.cons (mR Z) (aH.cons (zI Z) (aH.cons (Bh Z) (aH.cons (CL Z) (aH.cons (zJ Z) (aH.cons (cK (i:=0) (j:=0) Z Z) .nil))))))) Z λau=>aB (uI Z Z) Z<|aP ?_;refine eG h Z (λh=>?_) λh=>?_
    ·refine aR<|aA Z<|aA Z<|aB (acG Z Z Z) Z<|cQ h λak h=>aB (WX Z Z ak) Z<|aB (acH Z Z) Z<|aC Z<|eS<|lA ?_;exact cB (Xe .u32 a.1 (MS .u32 (1:Int) (wI .u64 a.2))) () h SF (a_.ix [1,2,3] Z Z) (iB [1,2,3,4,5,6,7,8] Z)
    refine dW<|lA ?_;exact cB (a.1) () h SF (a_.ix [1,2,3] Z Z) (iB [1,2,3,4,5,6,7,8] Z)
   intro p ac h;unfold qX at h;refine aR<|aA Z<|cN Z<|aC Z<|aP ?_;exact xD (p,(wI .i64 (a.2+(1:Int)))) () h SF Z
  refine eP ?_;exact cB (a.1) () h SF .nil (aH.refl _ _)
 intro a9 aa h;unfold wJ at h;refine aU<|aA Z<|aC Z<|aP<|aS ?_;cases h;exact iR Z
def wL (a:Unit):Option Bool:=
 some (true)
def wM (b:Int) (a:(Int)->Option Bool) (c:Unit):Option Bool:=
 a (wI .i64 (b+(1:Int)))
def q_ (b:Int) (a:(Int)->Option Bool) (c:Unit):Option Bool:=
 a (wI .i64 (b+(1:Int)))
def wN (U:Nat) (d:gX) (a b:Int) (e:(Int)->Option Bool) (c:Int) (f:(Int)->Option Bool):Option Bool:=
 ck (0<=a/\a<(d.2.2.length:Int)) (ck (0<=b/\b<((at' d.2.2 a).length:Int)) (if c<((at' (at' d.2.2 a) b).length:Int)then(ck (0<=a/\a<(d.2.2.length:Int)) (ck (0<=b/\b<((at' d.2.2 a).length:Int)) (ck (0<=c/\c<((at' (at' d.2.2 a) b).length:Int)) (ck (0<=a/\a<(d.1.length:Int)) (Option.bind (nU U (at' (at' (at' d.2.2 a) b) c) (at' d.1 a)) λg=>(if(!g)=true then(some (false))else(f (wI .i64 (c+(1:Int))))))))))else(q_ b e (()))))
def nX (U:Nat) (c:cJ) (d:gX) (a:Int) (e:(Int)->Option Bool) (b:Int) (f:(Int)->Option Bool):Option Bool:=
 ck (0<=a/\a<(c.2.length:Int)) (if b<((at' c.2 a).length:Int)then(ck (0<=a/\a<(d.2.1.length:Int)) (ck (0<=b/\b<((at' d.2.1 a).length:Int)) (ck (0<=a/\a<(c.2.length:Int)) (ck (0<=b/\b<((at' c.2 a).length:Int)) (ck (0<=((at' (at' c.2 a) b).1)/\((at' (at' c.2 a) b).1)<(d.1.length:Int)) (Option.bind (nU U (at' (at' d.2.1 a) b) (at' d.1 ((at' (at' c.2 a) b).1))) λg=>(if(!g)=true then(some (false))else(bL (wN U d a b f) U (0:Int)))))))))else(wM a e (())))
def jS (U:Nat) (d:cJ) (c:gX) (a:Int) (b:(Int)->Option Bool):Option Bool:=
 if a<(c.1.length:Int)then(bL (nX U d c a b) U (0:Int))else(wL (()))
def wK (U:Nat) (b:cJ) (c:gX) (a:Bool):Option Bool:=
 if a=true then(some (false))else(bL (jS U b c) U (0:Int))
def sS (U:Nat) (b:fE) (c:cJ) (a:gX):Option Bool:=
 Option.bind (kF U ((b.1,b.2.1,b.2.2)) ((c.1,c.2)) (8:Int) ((a.1,a.2.1,a.2.2))) λd=>(if(!d)=true then(wK U c a (true))else(Option.bind (m_ U ((b.1,b.2.1,b.2.2)) ((c.1,c.2)) ((a.1,a.2.1,a.2.2))) λe=>(wK U c a (decide (e≠(0:Int))))))
theorem acX:bB Tryz.prog 23:=Tryz.call23
theorem KJ (U:Nat) {F:fE} {A:cJ} {o:gX} (G H I J:V0) (z4:kX) (K:V0) (z6:nG) (L:V0) (z8:CV) (M:V0) (B:CU) (r:Bool) (h:sS U F A o=some r):
  bE Tryz.prog 23 #[Value.agg #[vS (F.1),G,H],Value.agg #[I,J],Value.agg #[K,L,M]] [Sl aE G F.2.1,Sl aD H F.2.2,PF (Value.agg #[vS F.1,G,H]),Sl aM I A.1,S2 aY J z4 A.2,S2 aM K z6 o.1,S3 aM L z8 o.2.1,S4 aM M B o.2.2] (λx:Unit=>vB (r)) (λx l=>l) (λ_ l=>l):=by
 refine bE.of Tryz.func23 Z Tryz.ntmps23 Z λc=>?_;refine aU<|aJ (aQ.box (cs:=[vS (F.1),G,H]) Z Z) Z λb1=>aJ (aQ.box (cs:=[I,J]) Z Z) Z λC=>let k:=bM C [I,J] 31;aJ (aQ.box (cs:=[K,L,M]) Z Z) Z λD=>let j:=bM D [K,L,M] 43;aC Z<|aP<|aN<|aN<|eB (λN=>wK U A o N=some r) (λN b6=>[(4,vP C),(5,vP D),(21,vB (N))]) (λN b6=>[j,k]) ?_ ?_
 ·refine aR<|cM 2 Z<|cM 1 Z<|cM 0 Z<|eI h λag aj h=>aJ (zBb OH (Cn U G H I J z4 K z6 L z8 M B ag aj) Z (iB [0,1,2,3,4,5,6,7] Z)) Z λao=>aB (jG Z) Z<|aA Z ?_;refine vW (by exact rfl) (by exact rfl) (λn=>?_) (λn=>?_)
  ·have h:=Hh n h;refine aO Z<|aO Z<|aO Z<|aO Z<|aO Z<|d_ Z<|aP ?_;exact cB (true) () h SF (a_.ix [0,1] Z Z) (aH.refl _ _)
  have h:=En n h;refine aW Z (dN 2 Z Z Z Z) Z<|aW Z (dN 1 Z Z Z Z) Z<|aW Z (dN 0 Z Z Z Z) Z<|eI h λad ak h=>oU Z (zBb Xg (F_ U G H I J z4 K z6 L z8 M B ad ak) Z (iB [0,1,2,3,4,5,6,7] Z)) Z λap=>aW Z (Bg Z Z) Z<|eR Z<|aP ?_;exact cB (decide (ad≠(0:Int))) () h SF (a_.ix [0,1] Z Z) (aH.refl _ _)
 intro N b6 h;refine rR h Z (λ_ h=>?_) λ_ h=>?_
 ·refine aU<|aC Z<|aP<|aS<|aG ?_;cases h;exact mO Z
 refine cL<|aN<|eB (λa8=>wL a8=some r) (λa8 b9=>[]) (λa8 b9=>[]) ?_ ?_
 ·refine aU<|aC Z<|aP<|aT<|eW (jS U A o) (λa O=>[(4,vP C),(5,vP D),(7,vI (a))]) (λa O=>[j,k]) (0:Int) () h SF (a_.refl _) ?_;intro ab a O h;let E:=(nX U A o a (bL (jS U A o) ab))
  refine aN<|aU<|aA Z<|bV Z<|dK 0 Z<|aB (dM Z (zJ Z) Z) Z<|cU Z<|aP ?_;refine eG h Z (λh=>?_) λh=>?_
  ·refine cL<|aN<|eB (λp=>wM a (bL (jS U A o) ab) p=some r) (λp P=>[(4,vP C),(5,vP D),(7,vI (a))]) (λp P=>[j,k]) ?_ ?_
   ·refine aT<|aU<|aC Z<|aP<|aT<|eW E (λd Q=>[(4,vP C),(5,vP D),(7,vI (a)),(8,vI (d))]) (λd Q=>[j,k]) (0:Int) () h SF (a_.refl _) ?_;intro ac d Q h;refine aN<|aU<|aA Z<|bV Z<|dK 1 Z<|aA Z<|cQ h λs h=>aB (bK Z Z (CL Z) Z Z s) Z<|aB (bS Z (CL Z) Z Z s) Z<|aB (fH Z (zBc (CL Z) s.1 s.2) Z) Z<|cU Z<|aP ?_;refine eG h Z (λh=>?_) λh=>?_
    ·refine cL<|aN<|eB (λq=>q_ d (bL E ac) q=some r) (λq R=>[(4,vP C),(5,vP D),(7,vI (a)),(8,vI (d))]) (λq R=>[j,k]) ?_ ?_
     ·refine aT<|aN<|aN ?_;refine rP [0,1,0,7,15,0,63,127,0,256,0,1024,0,7168,15360,0,64512,130048,261120,524032,1048320,2097151,4194303] 21 mixedOrders ?_;refine cC Z<|eQ 0 Z<|aV Z<|cQ h λe h=>aZ (cE (Fy Z)) λT=>eN Z (cO Z Z T Z Z e)<|bA Z .nil (eV 6 Z) (c_ Z (b_ Z) Z Z e) aL.z<|aV Z<|cQ h λt h=>aZ (cE (bR (Fy Z) e.1 e.2)) λV=>?_;refine eN Z (cO Z Z V Z Z t) ?_;refine bA Z .nil (eV 6 Z) (bS Z (bR (b_ Z) e.1 e.2) Z Z t) aL.z ?_;refine cC Z<|eQ 0 Z<|cC Z<|eQ 1 Z<|aV Z<|cQ h λi h=>bA Z .nil (eV 4 Z) (bK Z Z (b_ Z) Z Z i) aL.z<|bA Z .nil (eV 4 Z) (bS Z (b_ Z) Z Z i) aL.z<|aV Z<|cQ h λaa h=>bA Z .nil (eV 4 Z) (bG Z Z (zBc (b_ Z) i.1 i.2) Z Z aa) aL.z<|eN Z (dC Z Z Z Z Z)<|bA Z .nil (eV 4 Z) (eL Z (zBc (b_ Z) i.1 i.2) Z Z Z gA aa) aL.z<|cQ h λu h=>bA Z .nil (eV 5 Z) (bK Z Z (b_ Z) Z Z u) aL.z<|bA Z .nil (eV 5 Z) (bS Z (b_ Z) Z Z u) aL.z<|bN 21 Z Z<|eI h λae ah h=>aJ (zBb SC (BN U ((at' ((at' z8 a).2) d).1) ((at' z6 ((at' (at' A.2 a) d).1)).1) ae ah) Z (aH.cons (zBc (bR (Fy Z) e.1 e.2) t.1 t.2) (aH.cons (zBc (zJ Z) u.1 u.2) .nil))) Z λam=>?_;refine aB (jG Z) Z<|aP ?_;refine rR h Z (λ_ h=>?_) λ_ h=>?_
      ·refine aU<|aC Z<|aP<|aS<|aG<|bF<|aG<|aG<|bF<|bF<|aG<|aG<|bF<|aG ?_;cases h;exact mO Z
      refine cL<|aU<|aC Z<|aP<|aT<|eW (wN U o a d (bL E ac)) (λm S=>[(4,vP C),(5,vP D),(7,vI (a)),(8,vI (d)),(9,vI (m))]) (λm S=>[j,k]) (0:Int) () h SF (a_.refl _) ?_;intro al m S h;refine aN<|aU<|aA Z<|bV Z<|dK 0 Z<|aA Z<|cQ h λf h=>aB (bK Z Z (z_ Z) Z Z f) Z<|aB (c_ Z (z_ Z) Z Z f) Z<|aA Z<|cQ h λv h=>aB (bK Z Z (bR (z_ Z) f.1 f.2) Z Z v) Z ?_;refine aB (c_ Z (bR (z_ Z) f.1 f.2) Z Z v) Z ?_;refine aB (dM Z (bR (bR (z_ Z) f.1 f.2) v.1 v.2) Z) Z ?_;refine cU Z<|aP ?_;refine eG h Z (λh=>?_) λh=>?_
      ·refine cL<|aN<|aT<|aN ?_;refine rP [0,1,0,7,15,0,63,127,0,511,1023,0,2048,0,14336,30720,65535,131071] 16 mixedOrders ?_;refine cC Z<|eQ 0 Z<|aV Z<|cQ h λb h=>aZ (cE (z_ Z)) λW=>eN Z (cO Z Z W Z Z b)<|bA Z .nil (eV 7 Z) (c_ Z (b_ Z) Z Z b) aL.z<|aV Z<|cQ h λg h=>aZ (cE (bR (z_ Z) b.1 b.2)) λX=>?_;refine eN Z (cO Z Z X Z Z g) ?_;refine bA Z .nil (eV 7 Z) (c_ Z (bR (b_ Z) b.1 b.2) Z Z g) aL.z ?_;refine aV Z<|cQ h λw h=>aZ (cE (bR (bR (z_ Z) b.1 b.2) g.1 g.2)) λY=>?_;refine eN Z (cO Z Z Y Z Z w) ?_;refine bA Z .nil (eV 7 Z) (bS Z (bR (bR (b_ Z) b.1 b.2) g.1 g.2) Z Z w) aL.z ?_;refine cC Z<|eQ 0 Z<|aV Z<|cQ h λy h=>bA Z .nil (eV 5 Z) (bK Z Z (b_ Z) Z Z y) aL.z<|bA Z .nil (eV 5 Z) (bS Z (b_ Z) Z Z y) aL.z<|bN 16 Z Z<|eI h λaf ai h=>aJ (zBb SC (BN U ((at' ((at' ((at' B a).2) d).2) m).1) ((at' z6 a).1) af ai) Z (aH.cons (zBc (bR (bR (z_ Z) b.1 b.2) g.1 g.2) w.1 w.2) (aH.cons (zBc (zJ Z) y.1 y.2) .nil))) Z λan=>?_;refine aB (jG Z) Z<|aP ?_;refine rR h Z (λ_ h=>?_) λ_ h=>?_
       ·refine aU<|aC Z<|aP<|aS<|bF<|aG<|aG<|bF<|bF<|aG<|aG<|bF<|bF<|aG<|aG<|bF<|aG ?_;cases h;exact mO Z
       refine dW<|lA<|aR<|aA Z<|cN Z<|aC Z<|aP ?_;exact xD (wI .i64 (m+(1:Int))) () h SF Z
      refine uE<|g_<|g_<|Cr<|lA ?_;exact f_ () (()) h SF Z
     intro q R h;unfold q_ at h;refine aR<|aA Z<|cN Z<|aC Z<|aP ?_;exact xD (wI .i64 (d+(1:Int))) () h SF Z
    refine uE<|g_<|g_<|Cr<|lA ?_;exact f_ () (()) h SF Z
   intro p P h;unfold wM at h;refine aR<|aA Z<|cN Z<|aC Z<|aP ?_;exact xD (wI .i64 (a+(1:Int))) () h SF Z
  refine eP ?_;exact cB () (()) h SF .nil (aH.refl _ _)
 intro a8 b9 h;unfold wL at h;refine aU<|aC Z<|aP<|aS ?_;cases h;exact iR Z
end Go.Proofs.YtflciafboapaaaaGreat
namespace Go.Proofs.YtflciafboapaaaaGreat
open Go Go.Sx
theorem YT (p q:bT) (h:q.length<900):nU 1000 p q=some (decide (p=q)):=by
 unfold nU;by_cases a:p.length=q.length
 ·rw[if_neg (by omega),<-TO p q a,<-ifB];refine lI (λk b c=> ?_) (λb=> ?_) (by omega)
  ·unfold tX;rw[if_pos (by omega),cF (by omega),cF (by omega),cV (by omega)];by_cases e:at' p (k:Int)=at' q (k:Int)
   ·rw[if_neg (λh=>h e),zA4 e,if_pos Z]
   ·rw[if_pos e,zA3 e,if_neg (by decide)]
  ·unfold tX tW;rw[if_neg (by omega)]
 ·rw[if_pos (by omega),zA3 (λe=>a (by rw[e]))]
theorem aeJ {g:GR} (hV:VG g) {v i:Nat} (hv:v<g.2.length) (hi:i<(row g v).length):Ab 1000 g (v:Int) (i:Int)=some ((Ht g v i:Nat):Int):=by
 have h24:=hV.n24;have hd:=(hV.node v hv).deg;have hul:=(Bi hV hv hi).ul;have q1:(at' g.2 (v:Int)).length=(row g v).length:=rfl;have q2:(at' (at' g.2 (v:Int)) (i:Int)).1=((zF g v i:Nat):Int):=tO hV hv hi;have hdeg:Ac 1000 g (v:Int)=some ((row g v).length:Int):=by
  unfold Ac;rw[bH ((Rc g hV.light).1 hV)];unfold yJ;rw[if_neg (by simp),wr (by omega) (by omega),jF,zA4 (by omega),bH Z]
  first|rw[if_neg (by simp),cF (by omega)]|rfl
 unfold Ab;rw[bH hdeg,wr (by omega) (by omega),jF,zA4 (by omega),bH Z,if_neg (by simp),cF (by omega),cF (by omega),q2,bH (Ig g _ _ hul (by have:=(hV.node _ hul).deg;omega)),YI hV hv hi]
section
variable {g:GR} {p:Fh} {R:List RL} {cap:Int} {y:AZ} {l:List (Int×Int×Int)}
theorem SE (a:VG g) (b:gR g p.2.1) (cap:Int) (y:AZ):xL 1000 p g cap y=some (if 1<=cap/\cap<=8 then(if MM g p.2.1 cap y=true then 0 else 7)else 2):=by
 unfold xL;rw[bH (show pQ 1000 _ _=some 0 from XW a b),if_neg (by decide),bH (jF 1000 _ _ _)];by_cases h:1<=cap/\cap<=8
 ·rw[zA4 h,if_neg (by decide),if_pos h,bH (show kF 1000 _ _ _ _=_ from Jm a b cap y)];cases MM g p.2.1 cap y<;>rfl
 ·rw[zA3 h,if_neg h];rfl
theorem afl (f:VG g) (e:Int×Int×Int):qV 1000 g e=some (MK g e):=by
 have j:=f.n24;obtain⟨k,v,i⟩:=e;unfold qV MK;simp only;rw[bH (jF 1000 _ _ _)];by_cases a:1<=k/\k<=4
 rotate_left
 ·rw[zA3 a,zA3 (λh=>a h.1)];rfl
 rw[zA4 a,if_pos Z,wr (by omega) (by omega),bH (jF 1000 _ _ _)];by_cases b:0<=v/\v<(g.2.length:Int)
 rotate_left
 ·rw[zA3 (by omega),zA3 (λh=>b h.2.1)];rfl
 rw[zA4 (show 0<=v/\v<=(g.2.length:Int) - 1 by omega),if_pos Z];obtain⟨w,rfl⟩:∃w:Nat,v=(w:Int):=⟨v.toNat,by omega⟩
 have m:=(f.node w (by omega)).deg;have n:(at' g.2 (w:Int)).length=(row g w).length:=rfl;by_cases c:k=1
 ·rw[if_pos c,zA4 ⟨a,b,.inl c⟩];rfl
 rw[if_neg c,cF b,wr (by omega) (by omega),bH (jF 1000 _ _ _)];unfold lL;by_cases d:0<=i/\i<((at' g.2 (w:Int)).length:Int)
 ·rw[zA4 (show 0<=i/\i<=((at' g.2 (w:Int)).length:Int) - 1 by omega),zA4 ⟨a,b,.inr d⟩]
 ·rw[zA3 (by omega),zA3 (λh=>by rcases h.2.2 with h|h;exact c h;exact d h)]
theorem abu (d:VG g) (h:gR g p.2.1) (e:FW p g R) (j:p.2.2.map sO=BE R) (f:kJ p.2.1.length R=true) {c:List (List Int)} (a:Wo g c p.2.1) {v:Nat} (i:v<g.2.length):Af 1000 p g c (v:Int)=some (if 0<=s_ (dO p g) R c v then(NN (dO p g) p.2.1 R c v (s_ (dO p g) R c v),0)else([],11)):=by
 have k:=d.n24;have m:=a.len;unfold Af;rw[bH (show lF 1000 _ _ _=some 0 from Xx d h a),if_neg (by decide),wr (by omega) (by omega),bH (jF 1000 _ _ _),zA4 (by omega),if_neg (by decide),bH (show lG 1000 _ _ c (v:Int)=_ from SO e a i j f)];by_cases b:0<=s_ (dO p g) R c v
 ·rw[if_neg (by omega),if_pos b,bH (show Ah 1000 _ _ c (v:Int)=_ from afj d h e a i j f b)]
 ·rw[if_pos (by omega),if_neg b]
theorem abv (d:VG g) (j:gR g p.2.1) (f:FW p g R) (m:p.2.2.map sO=BE R) (h:kJ p.2.1.length R=true) {c:List (List Int)} (b:Wo g c p.2.1) {v:Nat} (k:v<g.2.length):Ag 1000 p g c (v:Int)=some (s_ (dO p g) R c v):=by
 have e:=d.n24;have i:=b.len;unfold Ag;have a:mF 1000 p g c=some true:=by
  unfold mF;rw[bH (show lF 1000 _ _ _=some 0 from Xx d j b)];rfl
 rw[bH (show mF 1000 _ _ _=some true from a),if_neg (by decide),wr (by omega) (by omega),bH (jF 1000 _ _ _),zA4 (by omega)];unfold Cf;rw[if_neg (by decide),bH (show lG 1000 _ _ c (v:Int)=_ from SO f b k m h)]
theorem YK (hV:VG g) (hp:gR g p.2.1) (hA:FW p g R) (hz:p.2.2.map sO=BE R) (hR:kJ p.2.1.length R=true) (hcap:1<=cap/\cap<=8) (h:VY g p.2.1 cap.toNat y) {k:Nat} (hk:k<l.length) (hl:l.length<=900) (hb:MK g (at' l (k:Int))=true) (ag:Int×AZ->Option (AZ×Int)):
  jR 1000 p g cap l ((k:Int),y) ag=ag (((k+1:Nat):Int),EQ g (ML (dO p g) p.2.1 R) cap.toNat y (Zy (at' l (k:Int)))):=by
 have h24:=hV.n24;have hvl:=hp.len;have lc:=h.sh.c;have la:=h.sh.a.len;have lw:=h.sh.w.len;obtain⟨e,he⟩:∃e,at' l (k:Int)=e:=⟨_,rfl⟩
 rw[he]at hb;obtain⟨ek,ev,ei⟩:=e;obtain⟨hb1,hb2,hb3⟩:=zAx hb;simp only at hb1 hb2 hb3;obtain⟨v,rfl⟩:∃v:Nat,ev=(v:Int):=⟨ev.toNat,by omega⟩
 have hv:v<g.2.length:=by omega
 have hdeg:=(hV.node v hv).deg;have hrow:at' g.2 (v:Int)=row g v:=rfl;have rc:=h.rowc hv;have ra:=h.sh.a.row v hv;have rw':=h.sh.w.row v hv;have fin:∀c ca wi,pS ((k:Int),y) ag (c,wi,ca)=ag (((k+1:Nat):Int),c,ca,wi):=λc ca wi=>by
  unfold pS;show ag (wI .i64 ((k:Int)+1),c,ca,wi)=_;rw[cV (by omega)]
 unfold jR;simp only[he];rw[if_pos (by omega),cF (by omega)];by_cases hk1:ek=1
 ·subst hk1;rw[if_pos Z,bH (Ui y.1 (by omega) λx hx=>by rw[h.rowc (by omega)];omega)];have hev:Zy ((1:Int),(v:Int),ei)=(1,v,ei.toNat):=rfl;rw[hev];have hvw:=J_ hV h.sh hv h.all;have hcw:=Mg hvw.1 hvw.2;refine(E_ (s:=Az 1000 p g l ((k:Int),y) ag) (K:=Ax 1000 p g l ((k:Int),y) ag) hV h.sh hv (λi c ag2 hi hcl=> ?_) (λc ag2 hcl=> ?_)).trans ?_
  ·have hto:=tO hV hv hi;have hul:=(Bi hV hv hi).ul;have hra:=h.rowa hV hv hi;have hl1:at' (row g v) (i:Int)=jM (row g v) i:=rfl;have e1:at' (at' y.2.1 (v:Int)) (i:Int)=nS y.2.1 v i:=rfl;unfold Az;simp only[he,hrow,hl1,hto,e1];rw[cF (by omega),if_pos (by omega),cF (by omega),cF (by omega),cF (by omega),cF (by omega),cF (by simp;omega),cF (by omega),cV (by omega),zAf,zB8]
  ·unfold Az;simp only[he,hrow];rw[cF (by omega),if_neg (by omega)]
  ·unfold Ax FG Aw;simp only[he];rw[bH (show Af 1000 _ _ (vw g y v) (v:Int)=_ from abu hV hp hA hz hR hcw hv)];show _=ag (_,Oz g (ML (dO p g) p.2.1 R) y v);unfold Oz ML;by_cases h0:0<=s_ (dO p g) R (vw g y v) v
   ·rw[if_pos h0,if_pos h0,if_pos Z,cF (by omega),zAf];exact fin _ _ _
   ·rw[if_neg h0,if_neg h0,if_neg (by decide)];refine(fin _ _ _).trans ?_;have e1:at' (vw g y v) (v:Int)=at' y.1 (v:Int):=PX hV h.sh hv _ (zAh _);rw[e1,Kt y.1 (by omega)]
 rw[if_neg hk1];obtain⟨i1,i2⟩:=hb3.resolve_left hk1;rw[hrow]at i2;obtain⟨i,rfl⟩:∃i:Nat,ei=(i:Int):=⟨ei.toNat,by omega⟩
 have hi:i<(row g v).length:=by omega
 have hev:Zy (ek,(v:Int),(i:Int))=(ek.toNat,v,i):=rfl;rw[hev];have hwl:=h.cp v i hv hi;have e2:at' (at' y.2.2 (v:Int)) (i:Int)=nS y.2.2 v i:=rfl;simp only[e2];by_cases hk2:ek=2
 ·subst hk2;rw[if_pos Z,cF (by omega),cF (by omega)];show _=ag (_,Eg cap.toNat y v i);unfold Eg Ay;by_cases hc:(nS y.2.2 v i).length<cap.toNat
  ·rw[if_pos (show((nS y.2.2 v i).length:Int)<cap by omega),if_pos hc,cF (by omega),cF (by omega),cF (by omega),cF (by omega),cF (by simp;omega),cF (by simp;omega),cF (by omega),zAf,zAf,zB8];exact fin _ _ _
  ·rw[if_neg (show¬((nS y.2.2 v i).length:Int)<cap by omega),if_neg hc];exact fin _ _ _
 rw[if_neg hk2];have hto:=tO hV hv hi;have hpb:=Bi hV hv hi;have hul:=hpb.ul;have hbl:=hpb.bl;have hdu:=(hV.node (zF g v i) hul).deg;have hwu:=h.sh.w.row (zF g v i) hul;have hl1:at' (row g v) (i:Int)=jM (row g v) i:=rfl;have e3:at' (at' y.2.2 ((zF g v i:Nat):Int)) ((Ht g v i:Nat):Int)=nS y.2.2 (zF g v i) (Ht g v i):=rfl;simp only[hrow,hl1,hto];rw[cF (by omega),cF (by omega),bH (show Ab 1000 _ (v:Int) (i:Int)=_ from aeJ hV hv hi),cF (by omega),cF (by omega)];simp only[e3];have hpf:EQ g (ML (dO p g) p.2.1 R) cap.toNat y (ek.toNat,v,i)=zT g (decide (ek=3)) y v i:=by
  unfold EQ;rw[if_neg (show¬ek.toNat=1 by omega),if_neg (show¬ek.toNat=2 by omega)];show zT g (decide (ek.toNat=3)) y v i=_;by_cases q:ek=3
  ·subst q;rfl
  ·rw[zA3 q,zA3 (by omega)]
 rw[hpf];obtain⟨wl,hw⟩:∃wl,wl=nS y.2.2 (zF g v i) (Ht g v i):=⟨_,rfl⟩
 cases wl with
 |nil=>
  rw[if_neg (by rw[<-hw];simp),QE hw];exact fin _ _ _
 | cons s r =>
  have hl:(nS y.2.2 (zF g v i) (Ht g v i)).length=r.length+1:=by rw[<-hw];rfl
  rw[if_pos (by omega),NG hw];have k10:∀ca,xS g l ((k:Int),y) ag (Ht g v i:Int) ca=ag (((k+1:Nat):Int),y.1,ca,Ii y.2.2 (zF g v i) (Ht g v i) r):=λca=>by
   unfold xS;simp only[he,hrow,hl1,hto,e3,<-hw];rw[cF (by omega),cF (by omega),cF (by omega),cF (by simp;omega),cF (by omega),zAf,zAf];exact fin _ _ _
  have hs:at' (nS y.2.2 (zF g v i) (Ht g v i)) 0=s:=by rw[<-hw];rfl
  by_cases q:ek=3
  ·subst q;rw[if_pos Z,cF (by omega),cF (by omega),cF (by omega),cF (by omega),cF (by omega),k10,zAf,zAf,hs];rfl
  ·rw[if_neg q,k10,zA3 q];rfl
theorem Rb (f:VG g) (u:gR g p.2.1) (C:FW p g R) (I:p.2.2.map sO=BE R) (A:kJ p.2.1.length R=true) (i:1<=cap/\cap<=8) (h:VY g p.2.1 cap.toNat y) (F:l.length<=900) (t:∀j,j<l.length->MK g (at' l (j:Int))=true):
  sF 1000 p g cap y l 0=some (perfs g (ML (dO p g) p.2.1 R) cap.toNat y l,0):=by
 have B:=f.n24;have x:=u.len;have J:=h.sh.a.len;have L:=h.sh.w.len;unfold sF;rw[if_neg (by decide),bH (Ui y.1 (by rw[h.sh.c];omega) λv n=>by rw[h.rowc (by rw[<-h.sh.c];exact n)];omega)];refine(Kj (cp:=mE 1000) (s3:=sG 1000 p g cap y l y.1) (s4:=λa d r=>AA 1000 y a d r) (K:=xT 1000 p g cap l y.1) f h (by omega) x (λc a b=>Ui c a b) (λk s z d e m D=> ?_) (λs z d=> ?_) (λk j s z d r b o e m E t=> ?_) (λk s z d r b o e m G=> ?_)).trans ?_
 ·unfold sG;dsimp only;rw[if_pos (by omega),cF (by omega)];refine congrArg (Option.bind _) (funext λr=> ?_);rw[cF (by simp;omega)]
 ·unfold sG;dsimp only;rw[if_neg (by omega)]
 ·unfold AA;dsimp only;rw[cF (by omega),if_pos (by omega),cF (by omega),cF (by omega)];refine congrArg (Option.bind _) (funext λq=> ?_);have:j<1000000:=by
   have n:k<g.2.length:=by omega
   have:=h.sh.w.row k n;have:=(f.node k n).deg;omega
  rw[cF (by simp;omega),cV this]
 ·unfold AA Ev;dsimp only;rw[cF (by omega),if_neg (by omega),cF (by simp;omega),cV (by omega)]
 ·unfold xT Dd;have:=dJ (step:=jR 1000 p g cap l) (K:=some (perfs g (ML (dO p g) p.2.1 R) cap.toNat y l,0)) l.length (λk=>((k:Int),perfs g (ML (dO p g) p.2.1 R) cap.toNat y (l.take k))) (λk d e=>by
   have H:=VY.perfs f h (Te (R:=R) u A) l k (by omega) (λj E=>t j (by omega));rw[YK f u C I A i H e F (t k e) d,Ie e]) (λd=>by
   unfold jR De;dsimp only;rw[if_neg (by omega),zB2]) 1000 (by omega)
  exact this
theorem Po (j:VG g) (o:l.length<=900) (cap:Int) (y:AZ):bL (jE 1000 p g cap y l) 1000 ((0:Int),(0:Int))=sF 1000 p g cap y l (if BC l.length (λk=>MK g (at' l (k:Int)))=true then 0 else 2):=by
 have c:∀(k:Nat) a,k<l.length->jE 1000 p g cap y l ((0:Int),(k:Int)) a=if MK g (at' l (k:Int))=true then a (0,((k+1:Nat):Int))else a (2,((k+1:Nat):Int)):=λk a d=>by
  unfold jE p_ xU;dsimp only;rw[if_pos (by omega),if_pos (show decide ((0:Int)=0)=true from rfl),cF (by omega),bH (show qV 1000 _ _=_ from afl j (at' l (k:Int))),cV (by omega)];cases MK g (at' l (k:Int))<;>rfl
 have f:∀(x:Int) a,jE 1000 p g cap y l ((2:Int),x) a=sF 1000 p g cap y l 2:=λx a=>by
  unfold jE p_;dsimp only;split<;>rfl
 by_cases b:BC l.length (λk=>MK g (at' l (k:Int)))=true
 ·rw[if_pos b];have b:=pN.1 b;refine dJ (step:=jE 1000 p g cap y l) l.length (λk=>((0:Int),(k:Int))) (λk a d=>by rw[c k a d,if_pos (b k d)]) (λa=> ?_) 1000 (by omega);unfold jE p_;dsimp only;rw[if_neg (by omega)];rfl
 ·rw[if_neg b];obtain⟨m,n,h,i⟩:=Lw b;refine dJ (step:=jE 1000 p g cap y l) (m+1) (λk=>(if k<=m then(0:Int)else 2,(k:Int))) (λk a d=> ?_) (λa=> ?_) 1000 (by omega)
  ·rw[if_pos (show k<=m by omega),c k a (by omega)];by_cases e:k=m
   ·subst e;rw[if_neg (by rw[h];decide),if_neg (by omega)]
   ·rw[if_pos (i k (by omega)),if_pos (by omega)]
  ·rw[if_neg (by omega)];exact f _ a
theorem aeb (d:VG g) (j:gR g p.2.1) (m:FW p g R) (q:p.2.2.map sO=BE R) (n:kJ p.2.1.length R=true) (cap:Int) (y:AZ) (i:l.length<=900):Cw 1000 p g cap y l=some (Ps g p.2.1 (ML (dO p g) p.2.1 R) cap y l):=by
 have a:∀z:Int,z≠0->sE 1000 p g cap y l z=some (FU,z):=λz e=>by
  unfold sE;have s:∀f,jE 1000 p g cap y l (z,0) f=some (FU,z):=λf=>by
   unfold jE p_ sF;dsimp only;rw[zA3 e];split<;>rw[if_neg (by decide)]
  exact s _
 unfold Cw Ps;rw[bH (show xL 1000 _ _ _ _=_ from SE d j cap y)];unfold Ch;by_cases c:1<=cap/\cap<=8
 rotate_left
 ·rw[if_neg c,if_neg c,if_neg (by decide),if_neg (by decide)];exact a 2 (by decide)
 rw[if_pos c,if_pos c];cases o:MM g p.2.1 cap y
 ·rw[if_neg (by decide),if_neg (by decide),if_neg (by decide),if_neg (by decide)];exact a 7 (by decide)
 obtain⟨_,h⟩:=FS.1 o;rw[if_pos Z,if_pos Z,if_neg (by rw[zAa];omega),if_pos Z];unfold sE;rw[Po d i cap y];by_cases b:BC l.length (λk=>MK g (at' l (k:Int)))=true
 ·rw[if_pos b,if_pos b];exact Rb d j m q n c h i (pN.1 b)
 ·rw[if_neg b,if_neg b];rfl
theorem abE (c:VG g) (d:gR g p.2.1) (a:FW p g R) (f:p.2.2.map sO=BE R) (b:kJ p.2.1.length R=true) (cap:Int) (y:AZ) (e:Int×Int×Int):Ai 1000 p g cap y e=some (Ps g p.2.1 (ML (dO p g) p.2.1 R) cap y [e]):=by
 unfold Ai;rw[bH (show Cw 1000 _ _ _ _ [e]=_ from aeb c d a f b cap y (by simp))]
theorem LF (hV:VG g) (hp:gR g p.2.1) (hA:FW p g R) (hz:p.2.2.map sO=BE R) (hR:kJ p.2.1.length R=true) (y:AZ):m_ 1000 p g y=some (if MM g p.2.1 8 y=true then((enR (dO p g) g R y:Nat):Int)else 0):=by
 have h24:=hV.n24;have hvl:=hp.len;unfold m_;rw[bH (show kF 1000 _ _ _ _=_ from Jm hV hp 8 y)];cases hy:MM g p.2.1 8 y
 ·rfl
 obtain⟨_,h⟩:=FS.1 hy;have lc:=h.sh.c;have la:=h.sh.a.len;rw[if_neg (by decide),if_pos Z];let q:Nat->Bool:=λv=>decide (0<=s_ (dO p g) R (vw g y v) v);refine dJ (step:=jQ 1000 p g y) (K:=some ((sX q g.2.length:Nat):Int)) g.2.length (λk=>(((sX q k:Nat):Int),(k:Int))) (λv ag hv=> ?_) (λag=> ?_) 1000 (by omega)
 rotate_left
 ·unfold jQ wJ;dsimp only;rw[if_neg (by omega)]
 have hdeg:=(hV.node v hv).deg;have hrow:at' g.2 (v:Int)=row g v:=rfl;have ra:=h.sh.a.row v hv;have hm:=Pd q (k:=v) (by omega);have hvw:=J_ hV h.sh hv h.all;have hcw:=Mg hvw.1 hvw.2;unfold jQ;dsimp only;rw[if_pos (by omega),bH (Ui y.1 (by omega) λx hx=>by rw[h.rowc (by omega)];omega)];refine(E_ (s:=qZ 1000 p g y (((sX q v:Nat):Int),(v:Int)) ag) (K:=qY 1000 p g (((sX q v:Nat):Int),(v:Int)) ag) hV h.sh hv (λi c ag2 hi hcl=> ?_) (λc ag2 hcl=> ?_)).trans ?_
 ·have hto:=tO hV hv hi;have hul:=(Bi hV hv hi).ul;have hra:=h.rowa hV hv hi;have hl1:at' (row g v) (i:Int)=jM (row g v) i:=rfl;have e1:at' (at' y.2.1 (v:Int)) (i:Int)=nS y.2.1 v i:=rfl;unfold qZ;simp only[hrow,hl1,hto,e1];rw[cF (by omega),if_pos (by omega),cF (by omega),cF (by omega),cF (by omega),cF (by omega),cF (by simp;omega),cF (by omega),cV (by omega),zAf,zB8]
 ·unfold qZ;simp only[hrow];rw[cF (by omega),if_neg (by omega)]
 ·unfold qY BK qX;dsimp only;have hw:wI .u64 (v:Int)=(v:Int):=ahr (by omega);rw[bH (show Ag 1000 _ _ (vw g y v) (v:Int)=_ from abv hV hp hA hz hR hcw hv),cV (by omega),hw];cases hq:q v with
  |true=>
   rw[if_pos (zAx hq),cF (by omega),Sv hm (by omega)];simp only[sX,hq,if_true]
  |false=>
   rw[if_neg (of_decide_eq_false hq)];simp only[sX,hq];rfl
theorem Tt (hV:VG g) (hp:gR g p.2.1) (hA:FW p g R) (hz:p.2.2.map sO=BE R) (hR:kJ p.2.1.length R=true) (y:AZ):sS 1000 p g y=some (MM g p.2.1 8 y&&(knB g y&&decide (((enR (dO p g) g R y:Nat):Int)=0))):=by
 have h24:=hV.n24;have hvl:=hp.len;unfold sS;rw[bH (show kF 1000 _ _ _ _=_ from Jm hV hp 8 y)];have en:=LF hV hp hA hz hR y;cases hy:MM g p.2.1 8 y
 ·rfl
 obtain⟨_,h⟩:=FS.1 hy;rw[hy,if_pos Z]at en;have lc:=h.sh.c;have la:=h.sh.a.len;have lw:=h.sh.w.len;rw[if_neg (by decide),bH (show m_ 1000 _ _ _=_ from en),zAs];have key:bL (jS 1000 g y) 1000 0=some (knB g y):=by
  rw[<-ifB];unfold knB;rw[show g.2.length=y.1.length from lc.symm];refine lI (λv ag hv=> ?_) (λag=> ?_) (by omega)
  rotate_left
  ·unfold jS wL;rw[if_neg (by omega)]
  have hv:v<g.2.length:=by omega
  have hdeg:=(hV.node v hv).deg;have hrow:at' g.2 (v:Int)=row g v:=rfl;have rc:=h.rowc hv;have ra:=h.sh.a.row v hv;have rw':=h.sh.w.row v hv;unfold jS;rw[if_pos (by omega)];refine lI (λi ag2 hi=> ?_) (λag2=> ?_) (by omega)
  rotate_left
  ·unfold nX wM;rw[cF (by omega),hrow,if_neg (by omega),cV (by omega)]
  have hto:=tO hV hv hi;have hul:=(Bi hV hv hi).ul;have rcu:=h.rowc hul;have hwl:=h.cp v i hv hi;have hl1:at' (row g v) (i:Int)=jM (row g v) i:=rfl;have e1:at' (at' y.2.1 (v:Int)) (i:Int)=nS y.2.1 v i:=rfl;have e2:at' (at' y.2.2 (v:Int)) (i:Int)=nS y.2.2 v i:=rfl;unfold nX kwB;rw[cF (by omega),hrow,if_pos (by omega),cF (by omega),cF (by omega),cF (by omega),cF (by omega),hl1,hto,cF (by omega),e1,bH (YT _ _ (by omega))];cases decide (nS y.2.1 v i=at' y.1 (zF g v i:Int))
  ·rfl
  rw[if_neg (by decide),zAs];refine Eq.trans (b:=if BC (nS y.2.2 v i).length (λk=>decide (at' (nS y.2.2 v i) (k:Int)=at' y.1 (v:Int)))=true then q_ (i:Int) ag2 ()else some false) (lI (λk ag3 hk=> ?_) (λag3=> ?_) (by omega)) ?_
  ·unfold wN;rw[cF (by omega),cF (by omega),e2,if_pos (by omega),cF (by omega),cF (by omega),cF (by omega),cF (by omega),bH (YT _ _ (by omega)),cV (by omega)];cases decide (at' (nS y.2.2 v i) (k:Int)=at' y.1 (v:Int))<;>rfl
  ·unfold wN;rw[cF (by omega),cF (by omega),e2,if_neg (by omega)]
  ·unfold q_;rw[cV (by omega)]
 unfold wK;by_cases he:((enR (dO p g) g R y:Nat):Int)=0
 ·rw[zA4 he,zA3 (by omega),if_neg (by decide),key,Bool.and_true]
 ·rw[zA3 he,zA4 he,if_pos Z,Bool.and_false]
end
theorem Gq (x:Int) (l:bT):iM (x::l)=if nz x=true then 0 else if iM l<0 then -1 else iM l+1:=by
 unfold iM;rw[List.findIdx?_cons];cases h:nz x with
 |true=>simp
 |false=>
  cases a:l.findIdx? nz with
  |none=>simp
  |some i=>simp<;>omega
theorem HD (d:bT):∀c:bT,iM (c++d)=if 0<=iM c then iM c else if 0<=iM d then(c.length:Int)+iM d else -1
 | [] => by
  have:iM [] = -1:=rfl;rw[zB8,this,if_neg (by decide)];have h:iM d = -1\/0<=iM d:=by
   unfold iM;cases d.findIdx? nz with
   |none=>exact .inl Z
   |some i=>exact .inr (by simp)
  split
  ·simp
  ·exact h.resolve_right (by assumption)
 | x :: c => by
  have e:=HD d c;rw[List.cons_append,Gq,Gq,e,zA8];have f : -1<=iM c:=by
   unfold iM;cases c.findIdx? nz with
   |none=>exact Int.le_refl _
   |some i=>simp<;>omega
  generalize iM c=A at *
  generalize iM d=B at *
  push_cast
  cases nz x with
  |true=>simp
  | false =>
   simp only[Bool.false_eq_true,if_false];by_cases a:0<=A
   ·simp only[if_pos a,if_neg (show¬A<0 by omega),if_pos (show 0<=A+1 by omega)]
   ·simp only[if_neg a,if_pos (show A<0 by omega),if_neg (show¬(0:Int) <= -1 by decide)];by_cases b:0<=B
    ·simp only[if_pos b];rw[if_neg (by omega)];omega
    ·simp only[if_neg b];rfl
def Lk (g:GR) (v i u:Nat) (w:Int):Prop:=i<(row g v).length/\u<g.2.length/\(jM (row g v) i).1=(u:Int)/\(jM (row g v) i).2=w
inductive Wv (g:GR) (F:Int->Int->Int):Nat->Int->Prop
 |zero:Wv g F 0 0
 |link {u v i:Nat} {y w:Int} (h:Wv g F u y) (hv:v<g.2.length) (hl:Lk g v i u w):Wv g F v (F y w)
noncomputable def lst (g:GR) (F:Int->Int->Int) (v:Nat):Int:=open Classical in if h:∃y,Wv g F v y/\∀z,Wv g F v z->y<=z then Classical.choose h else 0
section
variable {g:GR} {F:Int->Int->Int} {L:Int}
def aci (f:Nat->Int) (x:Int):Nat->Nat
 |0=>0
 |n+1=>aci f x n+if f n<x then 1 else 0
noncomputable def rk (g:GR) (F:Int->Int->Int) (v:Nat):Nat:=aci (lst g F) (lst g F v) g.2.length
end
def ahf:E:= .bi 41 (.lf 10 0) (.bi 42 (.bi 36 (.lf 5 0) (.lf 1 0)) (.bi 36 (.lf 5 1) (.lf 4 0)))
def ahe (a b:E):E:= .bi 41 (.un 19 (.lf 10 0)) (.bi 42 (.bi 36 (.lf 5 0) a) (.bi 36 (.lf 5 1) b))
def RY (a b:E):List RL:=[(ahf,[(0,.lf 1 0),(1,.lf 4 0)]),(ahe a b,[(0,a),(1,b)])]
noncomputable def LL (g:GR) (F:Int->Int->Int) (v:Nat):bT:=(List.range (row g v).length).map λi=>F (lst g F (jM (row g v) i).1.toNat) (jM (row g v) i).2
def ahb (a:E):E:= .ag 23 (.bi 35 a (.ag 24 a))
def eBX:E:= .ite (.bi 37 (.ag 24 (.lf 12 0)) (.lf 6 0)) (.bi 33 (.ag 24 (.lf 12 0)) (.lf 1 1)) (.lf 6 0)
def eBY:E:=ahb (.lf 12 0)
def fB (y _w:Int):Int:=y+1
def RBf:List RL:=RY eBX eBY
theorem abA:kJ 2 RBf=true:=by decide +kernel
def RJ (a b:ByteArray) (k:Int):List EC:=[(a,1,0,0,k,0),(b,3,0,0,0,0)]
theorem afD {g:GR} (e:VG g) (a b:ByteArray) {k:Int} (f:0<=k) (h:k<=16):gR g (RJ a b k):=by
 have i:=e.n24;have l:=e.n1;have m:k*(g.2.length:Int)<=16*24:=Int.mul_le_mul h (by omega) (by omega) (by omega);have j:0<=k*(g.2.length:Int):=Int.mul_nonneg f (by omega);refine⟨by show 2<=20;omega,λx c=> ?_,λx c=> ?_,λx c d=> ?_⟩
 ·have c:x<2:=c;rcases(show x=0\/x=1 by omega)with rfl|rfl
  ·show(-100000<=(0:Int)/\(0:Int)<=100000)/\(0<=k/\k<=100000)/\(0<=(0:Int)/\(0:Int)<=100000)
   omega
  ·show(-100000<=(0:Int)/\(0:Int)<=100000)/\(0<=(0:Int)/\(0:Int)<=100000)/\(0<=(0:Int)/\(0:Int)<=100000)
   omega
 ·have c:x<2:=c;rcases(show x=0\/x=1 by omega)with rfl|rfl
  ·exact .inl Z
  ·exact .inr (.inr Z)
 ·have c:x<2:=c;rcases(show x=0\/x=1 by omega)with rfl|rfl
  ·show -100000<=(0:Int)/\(0:Int)<=(0:Int)+k*(g.2.length:Int)+0*jH g g.1.length/\(0:Int)+k*(g.2.length:Int)+0*jH g g.1.length - 0+1<=4096;rw[Int.zero_mul];omega
  ·exact absurd d (by show¬(3:Int)=1;decide)
theorem TG (a b:ByteArray) {k:Int} (d:0<=k) (e:k<=16):∀x,x<(RJ a b k).length->Iy (at' (RJ a b k) (x:Int)) /\ -100000<=(at' (RJ a b k) (x:Int)).2.2.1/\(at' (RJ a b k) (x:Int)).2.2.1<=(at' (RJ a b k) (x:Int)).2.2.2.1:=λx c=>by
 have c:x<2:=c;rcases(show x=0\/x=1 by omega)with rfl|rfl
 ·show((-100000<=(0:Int)/\(0:Int)<=100000)/\(0<=k/\k<=100000)/\(0<=(0:Int)/\(0:Int)<=100000)) /\ -100000<=(0:Int)/\(0:Int)<=0;omega
 ·show((-100000<=(0:Int)/\(0:Int)<=100000)/\(0<=(0:Int)/\(0:Int)<=100000)/\(0<=(0:Int)/\(0:Int)<=100000)) /\ -100000<=(0:Int)/\(0:Int)<=0;omega
end Go.Proofs.YtflciafboapaaaaGreat
namespace Go.Proofs.YtflciafboapaaaaGreat
open Go Go.Sx Go.Gx
set_option maxRecDepth 100000
def Eo (a:Nat):Option Bool:=some (true)
theorem Xf:bB Tryz.prog 16:=Tryz.call16
theorem XB:okT (Kf KE gp2 4000 16 [] H0)=true:=by kernel_rfl
theorem MY (a:Nat) (r:Bool) (h:Eo a=some r):
  bE Tryz.prog 16 #[] [] (λx:Unit=>Value.bool (r)) (λx l=>l) (λ_ l=>l):=by
 obtain rfl:=Option.some.inj h;obtain⟨d,c⟩:=Yz XB;rw[Gm IZ]at c;exact Pe X_ Xf (λf e h=>h.bool_inv) λT b=>IA (gs:=gl T) ahg c (iO.start b Z) .nil
end Go.Proofs.YtflciafboapaaaaGreat
namespace Go.Proofs.YtflciafboapaaaaGreat
open Go.Sx
def Ca (a:Unit):Option Bool:=
 some (true)
def xP (U:Nat) (c e:bQ) (a:Int) (b:(Int)->Option Bool):Option Bool:=
 if a<(c.length:Int)then(ck (0<=a/\a<(c.length:Int)) (ck (0<=a/\a<(e.length:Int)) (Option.bind (nU U (at' c a) (at' e a)) λd=>(if(!d)=true then(some (false))else(b (wI .i64 (a+(1:Int))))))))else(Ca (()))
def wC (U:Nat) (a b:bQ):Option Bool:=
 if(a.length:Int)≠(b.length:Int)then(some (false))else(bL (xP U a b) U (0:Int))
theorem Sy:bB Tryz.prog 38:=Tryz.call38
theorem FP (U:Nat) {f g:bQ} (j:V0) (p:nG) (k:V0) (q:nG) (r:Bool) (h:wC U f g=some r):
  bE Tryz.prog 38 #[j,k] [S2 aM j p f,S2 aM k q g] (λx:Unit=>vB (r)) (λx l=>l) (λ_ l=>l):=by
 refine bE.of Tryz.func38 Z Tryz.ntmps38 Z λc=>?_;refine aU<|aC Z<|aP<|aN<|aU<|aA Z<|aB (dM Z (b_ Z) Z) Z<|aA Z<|aB (dM Z (mR Z) Z) Z<|lB Z<|aP ?_;refine eG h Z (λh=>?_) λh=>?_
 ·refine aU<|aC Z<|aP<|aS<|aG ?_;cases h;exact iR Z
 refine cL<|aN<|eB (λe=>Ca e=some r) (λe n=>[]) (λe n=>[]) ?_ ?_
 ·refine aU<|aC Z<|aP<|aT<|eW (xP U f g) (λd o=>[(0,j),(1,k),(5,vI (d))]) (λd o=>[]) (0:Int) () h SF (a_.refl _) ?_;intro t d o h;refine aN<|aU<|aA Z<|aA Z<|aB (dM Z (b_ Z) Z) Z<|cU Z<|aP ?_;refine eG h Z (λh=>?_) λh=>?_
  ·refine cL<|aN<|aT<|aN ?_;refine rP [0,0,3,7,0,0,48,112,255,511] 8 mixedOrders ?_;refine aV Z<|aV Z<|cQ h λa h=>bA Z .nil (eV 0 Z) (bK Z Z (b_ Z) Z Z a) aL.z<|bA Z .nil (eV 0 Z) (bS Z (b_ Z) Z Z a) aL.z<|aV Z<|aV Z<|cQ h λb h=>bA Z .nil (eV 1 Z) (bK Z Z (b_ Z) Z Z b) aL.z<|bA Z .nil (eV 1 Z) (bS Z (b_ Z) Z Z b) aL.z<|bN 8 Z Z<|eI h λi m h=>aJ (zBb SC (BN U ((at' p d).1) ((at' q d).1) i m) Z (aH.cons (zBc (b_ Z) a.1 a.2) (aH.cons (zBc (mR Z) b.1 b.2) .nil))) Z λs=>aB (jG Z) Z<|aP ?_;refine rR h Z (λ_ h=>?_) λ_ h=>?_
   ·refine aU<|aC Z<|aP<|aS<|bF<|aG<|aG<|bF<|aG ?_;cases h;exact iR Z
   refine dW<|lA<|aR<|aA Z<|cN Z<|aC Z<|aP ?_;exact xD (wI .i64 (d+(1:Int))) () h SF Z
  refine eP ?_;exact f_ () (()) h SF Z
 intro e n h;unfold Ca at h;refine aU<|aC Z<|aP<|aS ?_;cases h;exact iR Z
def Cj (a:Unit):Option Bool:=
 some (true)
def Ck (b:Int) (a:(Int)->Option Bool) (c:Unit):Option Bool:=
 a (wI .i64 (b+(1:Int)))
def xW (U:Nat) (e f:gX) (a:Int) (c:(Int)->Option Bool) (b:Int) (d:(Int)->Option Bool):Option Bool:=
 ck (0<=a/\a<(e.2.2.length:Int)) (if b<((at' e.2.2 a).length:Int)then(ck (0<=a/\a<(e.2.2.length:Int)) (ck (0<=b/\b<((at' e.2.2 a).length:Int)) (ck (0<=a/\a<(f.2.2.length:Int)) (ck (0<=b/\b<((at' f.2.2 a).length:Int)) (Option.bind (wC U (at' (at' e.2.2 a) b) (at' (at' f.2.2 a) b)) λg=>(if(!g)=true then(some (false))else(d (wI .i64 (b+(1:Int))))))))))else(Ck a c (())))
def qA (U:Nat) (c d:gX) (a:Int) (b:(Int)->Option Bool):Option Bool:=
 if a<(c.2.2.length:Int)then(ck (0<=a/\a<(c.2.2.length:Int)) (ck (0<=a/\a<(d.2.2.length:Int)) (if((at' c.2.2 a).length:Int)≠((at' d.2.2 a).length:Int)then(some (false))else(bL (xW U c d a b) U (0:Int)))))else(Cj (()))
def Ci (U:Nat) (a b:gX) (c:Unit):Option Bool:=
 bL (qA U a b) U (0:Int)
def xX (U:Nat) (c d:gX) (a:Int) (b:(Int)->Option Bool):Option Bool:=
 if a<(c.2.1.length:Int)then(ck (0<=a/\a<(c.2.1.length:Int)) (ck (0<=a/\a<(d.2.1.length:Int)) (Option.bind (wC U (at' c.2.1 a) (at' d.2.1 a)) λe=>(if(!e)=true then(some (false))else(b (wI .i64 (a+(1:Int))))))))else(Ci U c d (()))
def xV (U:Nat) (b c:gX) (a:Bool):Option Bool:=
 if a=true then(some (false))else(bL (xX U b c) U (0:Int))
def sC (U:Nat) (a b:gX):Option Bool:=
 Option.bind (wC U a.1 b.1) λc=>(if(!c)=true then(xV U a b (true))else(if(a.2.1.length:Int)≠(b.2.1.length:Int)then(xV U a b (true))else(xV U a b (decide ((a.2.2.length:Int)≠(b.2.2.length:Int))))))
theorem acU:bB Tryz.prog 17:=Tryz.call17
theorem PP (U:Nat) {j k:gX} (R:V0) (z1:nG) (W:V0) (z3:CV) (X:V0) (z5:CU) (S:V0) (z7:nG) (Y:V0) (z9:CV) (w:V0) (B:CU) (r:Bool) (h:sC U j k=some r):
  bE Tryz.prog 17 #[Value.agg #[R,W,X],Value.agg #[S,Y,w]] [S2 aM R z1 j.1,S3 aM W z3 j.2.1,S4 aM X z5 j.2.2,S2 aM S z7 k.1,S3 aM Y z9 k.2.1,S4 aM w B k.2.2] (λx:Unit=>vB (r)) (λx l=>l) (λ_ l=>l):=by
 refine bE.of Tryz.func17 Z Tryz.ntmps17 Z λc=>?_;refine aU<|aJ (aQ.box (cs:=[R,W,X]) Z Z) Z λy=>let i:=bM y [R,W,X] 43;aJ (aQ.box (cs:=[S,Y,w]) Z Z) Z λA=>let g:=bM A [S,Y,w] 43;aC Z<|aP<|aN<|aN<|eB (λC=>xV U j k C=some r) (λC b5=>[(2,vP y),(3,vP A),(31,vB (C))]) (λC b5=>[g,i]) ?_ ?_
 ·refine aR<|bV Z<|dK 1 Z<|bV Z<|dK 0 Z<|eI h λac af h=>aJ (zBb Sy (FP U R z1 S z7 ac af) Z (iB [0,3] Z)) Z λak=>aB (jG Z) Z<|aA Z ?_;refine vW (by exact rfl) (by exact rfl) (λm=>?_) (λm=>?_)
  ·have h:=Hh m h;refine aO Z<|aO Z<|aO Z<|aO Z<|aO Z<|aO Z<|aO Z<|d_ Z<|aA Z<|aO Z<|aO Z<|aO Z<|aO Z<|aO Z<|aO Z<|aO Z<|d_ Z<|aP ?_;exact f_ (true) () h SF Z
  have h:=En m h;refine aW Z (cT Z Z Z Z Z) Z<|aW Z (dL 1 Z Z Z Z Z) Z<|aW Z (dM Z (mR Z) Z) Z<|aW Z (cT Z Z Z Z Z) Z<|aW Z (dL 0 Z Z Z Z Z) Z<|aW Z (dM Z (CL Z) Z) Z<|aW Z (Bg Z Z) Z<|eR Z<|aA Z ?_;refine Ds h Z (λ_ h=>?_) λ_ h=>?_
  ·refine aO Z<|aO Z<|aO Z<|aO Z<|aO Z<|aO Z<|aO Z<|d_ Z<|aP ?_;exact f_ (true) () h SF Z
  refine aW Z (cT Z Z Z Z Z) Z<|aW Z (dL 1 Z Z Z Z Z) Z<|aW Z (dM Z (zI Z) Z) Z<|aW Z (cT Z Z Z Z Z) Z<|aW Z (dL 0 Z Z Z Z Z) Z<|aW Z (dM Z (zJ Z) Z) Z<|aW Z (Bg Z Z) Z<|eR Z<|aP ?_;exact f_ (decide ((j.2.2.length:Int)≠(k.2.2.length:Int))) () h SF Z
 intro C b5 h;refine rR h Z (λ_ h=>?_) λ_ h=>?_
 ·refine aU<|aC Z<|aP<|aS<|aG ?_;cases h;exact mO Z
 refine cL<|aN<|eB (λT=>Ci U j k T=some r) (λT b8=>[(2,vP y),(3,vP A)]) (λT b8=>[g,i]) ?_ ?_
 ·refine aU<|aC Z<|aP<|aT<|eW (xX U j k) (λd H=>[(2,vP y),(3,vP A),(5,vI (d))]) (λd H=>[g,i]) (0:Int) () h SF (a_.refl _) ?_;intro ah d H h;refine aN<|aU<|aA Z<|bV Z<|dK 1 Z<|aB (dM Z (mR Z) Z) Z<|cU Z<|aP ?_;refine eG h Z (λh=>?_) λh=>?_
  ·refine cL<|aN<|aT<|aN ?_;refine rP [0,1,0,7,15,0,32,0,224,480,1023,2047] 10 mixedOrders ?_;refine cC Z<|eQ 1 Z<|aV Z<|cQ h λu h=>aZ (cE (mR Z)) λO=>eN Z (cO Z Z O Z Z u)<|bA Z .nil (eV 1 Z) (c_ Z (b_ Z) Z Z u) aL.z<|cC Z<|eQ 0 Z<|aV Z<|cQ h λv h=>aZ (cE (CL Z)) λP=>eN Z (cO Z Z P Z Z v)<|bA Z .nil (eV 4 Z) (c_ Z (b_ Z) Z Z v) aL.z<|bN 10 Z Z<|eI h λab ae h=>aJ (zBb Sy (FP U ((at' z3 d).1) ((at' z3 d).2) ((at' z9 d).1) ((at' z9 d).2) ab ae) Z (aH.cons (bR (mR Z) u.1 u.2) (aH.cons (bR (CL Z) v.1 v.2) .nil))) Z λaj=>?_;refine aB (jG Z) Z<|aP ?_;refine rR h Z (λ_ h=>?_) λ_ h=>?_
   ·refine aU<|aC Z<|aP<|aS<|bF<|aG<|aG<|bF<|aG ?_;cases h;exact mO Z
   refine dW<|lA<|aR<|aA Z<|cN Z<|aC Z<|aP ?_;exact xD (wI .i64 (d+(1:Int))) () h SF Z
  refine eP ?_;exact f_ () (()) h SF Z
 intro T b8 h;unfold Ci at h;refine aN<|eB (λV=>Cj V=some r) (λV D=>[]) (λV D=>[]) ?_ ?_
 ·refine aU<|aC Z<|aP<|aT<|eW (qA U j k) (λa E=>[(2,vP y),(3,vP A),(6,vI (a))]) (λa E=>[g,i]) (0:Int) () h SF (a_.refl _) ?_;intro Q a E h;refine aN<|aU<|aA Z<|bV Z<|dK 1 Z<|aB (dM Z (zI Z) Z) Z<|cU Z<|aP ?_;refine eG h Z (λh=>?_) λh=>?_
  ·refine cL<|aN<|eB (λn=>Ck a (bL (qA U j k) Q) n=some r) (λn F=>[(2,vP y),(3,vP A),(6,vI (a))]) (λn F=>[g,i]) ?_ ?_
   ·refine aT<|aN<|aN ?_;refine rP [0,1,0,7,15,31,0,64,0,448,960,1984,4095] 12 mixedOrders ?_;refine cC Z<|eQ 1 Z<|aV Z<|cQ h λo h=>aZ (cE (zI Z)) λI=>eN Z (cO Z Z I Z Z o)<|bA Z .nil (eV 2 Z) (c_ Z (b_ Z) Z Z o) aL.z ?_;refine bA Z .nil (eV 2 Z) (dM Z (bR (b_ Z) o.1 o.2) Z) aL.z ?_;refine cC Z<|eQ 0 Z<|aV Z<|cQ h λp h=>aZ (cE (zJ Z)) λJ=>eN Z (cO Z Z J Z Z p)<|bA Z .nil (eV 5 Z) (c_ Z (b_ Z) Z Z p) aL.z ?_;refine bA Z .nil (eV 5 Z) (dM Z (bR (b_ Z) p.1 p.2) Z) aL.z ?_;refine bN 12 Z Z<|lB Z<|aP ?_;refine eG h Z (λh=>?_) λh=>?_
    ·refine aU<|aC Z<|aP<|aS<|aG<|bF<|aG<|aG<|bF<|aG ?_;cases h;exact mO Z
    refine cL<|aU<|aC Z<|aP<|aT<|eW (xW U j k a (bL (qA U j k) Q)) (λb G=>[(2,vP y),(3,vP A),(6,vI (a)),(7,vI (b))]) (λb G=>[g,i]) (0:Int) () h SF (a_.refl _) ?_;intro ag b G h;refine aN<|aU<|aA Z<|bV Z<|dK 1 Z<|aA Z<|cQ h λq h=>aB (bK Z Z (zI Z) Z Z q) Z<|aB (c_ Z (zI Z) Z Z q) Z ?_;refine aB (dM Z (bR (zI Z) q.1 q.2) Z) Z ?_;refine cU Z<|aP ?_;refine eG h Z (λh=>?_) λh=>?_
    ·refine cL<|aN<|aT<|aN ?_;refine rP [0,1,0,7,15,0,63,127,0,256,0,1792,3840,0,16128,32512,65535,131071] 16 mixedOrders ?_;refine cC Z<|eQ 1 Z<|aV Z<|cQ h λe h=>aZ (cE (zI Z)) λK=>eN Z (cO Z Z K Z Z e)<|bA Z .nil (eV 2 Z) (c_ Z (b_ Z) Z Z e) aL.z<|aV Z<|cQ h λs h=>aZ (cE (bR (zI Z) e.1 e.2)) λL=>?_;refine eN Z (cO Z Z L Z Z s) ?_;refine bA Z .nil (eV 2 Z) (c_ Z (bR (b_ Z) e.1 e.2) Z Z s) aL.z ?_;refine cC Z<|eQ 0 Z<|aV Z<|cQ h λf h=>aZ (cE (zJ Z)) λM=>eN Z (cO Z Z M Z Z f)<|bA Z .nil (eV 5 Z) (c_ Z (b_ Z) Z Z f) aL.z<|aV Z<|cQ h λt h=>aZ (cE (bR (zJ Z) f.1 f.2)) λN=>?_;refine eN Z (cO Z Z N Z Z t) ?_;refine bA Z .nil (eV 5 Z) (c_ Z (bR (b_ Z) f.1 f.2) Z Z t) aL.z ?_;refine bN 16 Z Z<|eI h λaa ad h=>aJ (zBb Sy (FP U ((at' ((at' z5 a).2) b).1) ((at' ((at' z5 a).2) b).2) ((at' ((at' B a).2) b).1) ((at' ((at' B a).2) b).2) aa ad) Z (aH.cons (bR (bR (zI Z) e.1 e.2) s.1 s.2) (aH.cons (bR (bR (zJ Z) f.1 f.2) t.1 t.2) .nil))) Z λai=>?_;refine aB (jG Z) Z<|aP ?_;refine rR h Z (λ_ h=>?_) λ_ h=>?_
     ·refine aU<|aC Z<|aP<|aS<|bF<|aG<|aG<|bF<|bF<|aG<|aG<|bF<|aG ?_;cases h;exact mO Z
     refine dW<|lA<|aR<|aA Z<|cN Z<|aC Z<|aP ?_;exact xD (wI .i64 (b+(1:Int))) () h SF Z
    refine uE<|g_<|g_<|Cr<|lA ?_;exact f_ () (()) h SF Z
   intro n F h;unfold Ck at h;refine aR<|aA Z<|cN Z<|aC Z<|aP ?_;exact xD (wI .i64 (a+(1:Int))) () h SF Z
  refine eP ?_;exact cB () (()) h SF .nil (aH.refl _ _)
 intro V D h;unfold Cj at h;refine aU<|aC Z<|aP<|aS ?_;cases h;exact iR Z
end Go.Proofs.YtflciafboapaaaaGreat