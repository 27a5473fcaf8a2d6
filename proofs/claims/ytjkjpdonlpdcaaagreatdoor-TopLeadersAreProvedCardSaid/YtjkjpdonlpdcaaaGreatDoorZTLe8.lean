/- Models and proofs. Conditions: none. -/
import Derived.Test.YtjkjpdonlpdcaaaGreatDoorZTLe7
import Derived.Test.YtjkjpdonlpdcaaaGreatDoorZTLe6
import Derived.Test.YtjkjpdonlpdcaaaGreatDoorZTLe5
import Derived.Test.YtjkjpdonlpdcaaaGreatDoorZTLe2
set_option linter.unusedVariables false
set_option linter.unusedSimpArgs false
set_option maxHeartbeats 4000000
set_option maxRecDepth 20000
namespace Go.Proofs.YtjkjpdonlpdcaaaGreatDoor
open Go.Sx
def oF  (a:Bool):Option (Bool):=
 some (a)
def xI (c:cB) (d:b_) (a:Int) (b:Bool):Option (Bool):=
 if b=true then(ck (0<=a∧a<(List.length c.1:Int)) (if((at' d a).1)=(at' c.1 a)then(oF  (decide (((at' d a).2)=(0:Int))))else(oF  (false))))else(oF  (false))
def xJ (b:cB) (c:b_) (d:Int) (a:Bool):Option (Bool):=
 xI b c d ((!a))
def rS (b:cB) (c:b_) (d:Int) (a:Int):Option (Bool):=
 xJ b c d (decide ((0:Int)<=a))
def xK (b:cB) (c:b_) (d:Int) (a:Unit):Option (Bool):=
 rS b c d (-1:Int)
def Bm (d:cB) (e:b_) (f:Int) (a:Int) (b:(Int)->Option (Bool)) (c:Bool):Option (Bool):=
 if c=true then(rS d e f (a))else(b (wI .i64 (a+(1:Int))))
def xL (d:cB) (e:b_) (f:Int) (b:Int) (a:(Int)->Option (Bool)) (c:Bool):Option (Bool):=
 Bm d e f b a (c)
def rT (U:Nat) (c:cB) (d:b_) (b:Int) (a:Int) (e:(Int)->Option (Bool)):Option (Bool):=
 if a<(List.length (at' c.2 b):Int)then(ck (0<=a∧a<(List.length (at' c.2 b):Int)) (ck (0<=((at' (at' c.2 b) a).1)∧((at' (at' c.2 b) a).1)<(List.length d:Int)) (Option.bind (fD U ((((at' d ((at' (at' c.2 b) a).1)).1),((at' d ((at' (at' c.2 b) a).1)).2))) ((at' d b).1)) λf=>(xL c d b a e ((!f))))))else(xK c d b (()))
def oG  (a:Bool):Option (Bool):=
 some (a)
def vQ (U:Nat) (c:cB) (b:aT) (d:b_) (a:Int) (e:Bool):Option (Bool):=
 if e=true then(if(1:Int)<=((at' d a).2)then(ck (0<=a∧a<(List.length c.2:Int)) (ck (0<=a∧a<(List.length b:Int)) (ck (0<=(at' b a)∧(at' b a)<(List.length (at' c.2 a):Int)) (ck (0<=((at' (at' c.2 a) (at' b a)).1)∧((at' (at' c.2 a) (at' b a)).1)<(List.length d:Int)) (Option.bind (kW U ((((at' d ((at' (at' c.2 a) (at' b a)).1)).1),((at' d ((at' (at' c.2 a) (at' b a)).1)).2))) ((at' d a).2)) λf=>(oG  (f)))))))else(oG  (false)))else(oG  (false))
def vR (U:Nat) (b:cB) (c:aT) (d:b_) (e:Int) (a:Bool):Option (Bool):=
 vQ U b c d e ((!a))
def qD (U:Nat) (b:cB) (c:aT) (d:b_) (e:Int) (a:Int):Option (Bool):=
 vR U b c d e (decide ((0:Int)<=a))
def vT (U:Nat) (b:cB) (c:aT) (d:b_) (e:Int) (a:Unit):Option (Bool):=
 qD U b c d e (-1:Int)
def AF (U:Nat) (d:cB) (e:aT) (f:b_) (g:Int) (a:Int) (b:(Int)->Option (Bool)) (c:Bool):Option (Bool):=
 if c=true then(qD U d e f g (a))else(b (wI .i64 (a+(1:Int))))
def vV (U:Nat) (d:cB) (e:aT) (f:b_) (g:Int) (b:Int) (a:(Int)->Option (Bool)) (c:Bool):Option (Bool):=
 AF U d e f g b a (c)
def rU (U:Nat) (c:cB) (g:aT) (d:b_) (b:Int) (a:Int) (e:(Int)->Option (Bool)):Option (Bool):=
 if a<(List.length (at' c.2 b):Int)then(ck (0<=a∧a<(List.length (at' c.2 b):Int)) (ck (0<=((at' (at' c.2 b) a).1)∧((at' (at' c.2 b) a).1)<(List.length d:Int)) (Option.bind (fD U ((((at' d ((at' (at' c.2 b) a).1)).1),((at' d ((at' (at' c.2 b) a).1)).2))) ((at' d b).1)) λf=>(vV U c g d b a e ((!f))))))else(vT U c g d b (()))
def kQ  (a:Bool):Option (Bool):=
 some (a)
def kR (c:cB) (d:b_) (b:Int) (a:Bool):Option (Bool):=
 if a=true then(ck (0<=b∧b<(List.length c.1:Int)) (if((at' d b).1)=(at' c.1 b)then(kQ  (decide (((at' d b).2)=(0:Int))))else(kQ  (false))))else(kQ  (false))
def vW (b:cB) (c:b_) (d:Int) (a:Bool):Option (Bool):=
 kR b c d ((!a))
def mR (b:cB) (c:b_) (d:Int) (a:Int):Option (Bool):=
 vW b c d (decide ((0:Int)<=a))
def vX (b:cB) (c:b_) (d:Int) (a:Unit):Option (Bool):=
 mR b c d (-1:Int)
def qE (d:cB) (e:b_) (f:Int) (a:Int) (b:(Int)->Option (Bool)) (c:Bool):Option (Bool):=
 if c=true then(mR d e f (a))else(b (wI .i64 (a+(1:Int))))
def mS (d:cB) (e:b_) (f:Int) (b:Int) (a:(Int)->Option (Bool)) (c:Bool):Option (Bool):=
 qE d e f b a (c)
def fM (U:Nat) (c:cB) (e:b_) (b:Int) (a:Int) (d:(Int)->Option (Bool)):Option (Bool):=
 if a<(List.length (at' c.2 b):Int)then(ck (0<=a∧a<(List.length (at' c.2 b):Int)) (ck (0<=((at' (at' c.2 b) a).1)∧((at' (at' c.2 b) a).1)<(List.length e:Int)) (Option.bind (fD U ((((at' e ((at' (at' c.2 b) a).1)).1),((at' e ((at' (at' c.2 b) a).1)).2))) ((at' e b).1)) λf=>(mS c e b a d ((!f))))))else(vX c e b (()))
def kS  (a:Bool):Option (Bool):=
 some (a)
def vY  (a:Bool):Option (Bool):=
 kS  (a)
def mU  (a:Int):Option (Bool):=
 vY  (decide ((0:Int)<=a))
def vZ  (a:Unit):Option (Bool):=
 mU  (-1:Int)
def qF (a:Int) (b:(Int)->Option (Bool)) (c:Bool):Option (Bool):=
 if c=true then(mU  (a))else(b (wI .i64 (a+(1:Int))))
def iD (U:Nat) (d:cB) (f:b_) (c:Int) (a:Int) (b:(Int)->Option (Bool)):Option (Bool):=
 if a<(List.length (at' d.2 c):Int)then(ck (0<=a∧a<(List.length (at' d.2 c):Int)) (ck (0<=((at' (at' d.2 c) a).1)∧((at' (at' d.2 c) a).1)<(List.length f:Int)) (Option.bind (kW U ((((at' f ((at' (at' d.2 c) a).1)).1),((at' f ((at' (at' d.2 c) a).1)).2))) ((at' f c).2)) λe=>(qF a b (e)))))else(vZ  (()))
def mT (U:Nat) (c:cB) (d:b_) (b:Int) (a:Bool):Option (Bool):=
 if a=true then(if(1:Int)<=((at' d b).2)then(ck (0<=b∧b<(List.length c.2:Int)) (bP (iD U c d b) U (0:Int)))else(kS  (false)))else(kS  (false))
def v_ (U:Nat) (b:cB) (c:b_) (d:Int) (a:Bool):Option (Bool):=
 mT U b c d ((!a))
def mV (U:Nat) (b:cB) (c:b_) (d:Int) (a:Int):Option (Bool):=
 v_ U b c d (decide ((0:Int)<=a))
def wA (U:Nat) (b:cB) (c:b_) (d:Int) (a:Unit):Option (Bool):=
 mV U b c d (-1:Int)
def qG (U:Nat) (d:cB) (e:b_) (f:Int) (a:Int) (b:(Int)->Option (Bool)) (c:Bool):Option (Bool):=
 if c=true then(mV U d e f (a))else(b (wI .i64 (a+(1:Int))))
def mW (U:Nat) (d:cB) (e:b_) (f:Int) (b:Int) (a:(Int)->Option (Bool)) (c:Bool):Option (Bool):=
 qG U d e f b a (c)
def fN (U:Nat) (c:cB) (e:b_) (b:Int) (a:Int) (d:(Int)->Option (Bool)):Option (Bool):=
 if a<(List.length (at' c.2 b):Int)then(ck (0<=a∧a<(List.length (at' c.2 b):Int)) (ck (0<=((at' (at' c.2 b) a).1)∧((at' (at' c.2 b) a).1)<(List.length e:Int)) (Option.bind (fD U ((((at' e ((at' (at' c.2 b) a).1)).1),((at' e ((at' (at' c.2 b) a).1)).2))) ((at' e b).1)) λf=>(mW U c e b a d ((!f))))))else(wA U c e b (()))
def wC  (a:Bool):Option (Bool):=
 some (a)
def wD  (a:Bool):Option (Bool):=
 wC  ((!a))
def qH  (a:Int):Option (Bool):=
 wD  (decide ((0:Int)<=a))
def wE  (a:Unit):Option (Bool):=
 qH  (-1:Int)
def AG (a:Int) (b:(Int)->Option (Bool)) (c:Bool):Option (Bool):=
 if c=true then(qH  (a))else(b (wI .i64 (a+(1:Int))))
def wF (b:Int) (a:(Int)->Option (Bool)) (c:Bool):Option (Bool):=
 AG b a (c)
def rV (U:Nat) (d:cB) (f:b_) (c:Int) (a:Int) (b:(Int)->Option (Bool)):Option (Bool):=
 if a<(List.length (at' d.2 c):Int)then(ck (0<=a∧a<(List.length (at' d.2 c):Int)) (ck (0<=((at' (at' d.2 c) a).1)∧((at' (at' d.2 c) a).1)<(List.length f:Int)) (Option.bind (wK U ((((at' f ((at' (at' d.2 c) a).1)).1),((at' f ((at' (at' d.2 c) a).1)).2))) ((at' f c).1)) λe=>(wF a b ((!e))))))else(wE  (()))
def mX  (a:Bool):Option (Bool):=
 some (a)
def AH (U:Nat) (c:cB) (b:aT) (f:b_) (a:Int) (d:Bool):Option (Bool):=
 if(!d)=true then(some (false))else(ck (0<=a∧a<(List.length b:Int)) (if(at' b a)<(0:Int)then(some (decide (((at' f a).1)=(0:Int))))else(ck (0<=a∧a<(List.length c.2:Int)) (ck (0<=a∧a<(List.length b:Int)) (ck (0<=(at' b a)∧(at' b a)<(List.length (at' c.2 a):Int)) (ck (0<=((at' (at' c.2 a) (at' b a)).1)∧((at' (at' c.2 a) (at' b a)).1)<(List.length b:Int)) (Option.bind (pT U ((c.1,c.2)) ((at' (at' c.2 a) (at' b a)).1) a) λe=>(if(at' b ((at' (at' c.2 a) (at' b a)).1))=e then(if((at' f a).1)=(0:Int)then(mX  (true))else(ck (0<=((at' (at' c.2 a) (at' b a)).1)∧((at' (at' c.2 a) (at' b a)).1)<(List.length f:Int)) (mX  (decide (((at' f ((at' (at' c.2 a) (at' b a)).1)).1)=(0:Int))))))else(mX  (false))))))))))
def wG (U:Nat) (b:cB) (c:aT) (d:b_) (e:Int) (a:Bool):Option (Bool):=
 AH U b c d e ((!a))
def qI (U:Nat) (b:cB) (c:aT) (d:b_) (e:Int) (a:Int):Option (Bool):=
 wG U b c d e (decide ((0:Int)<=a))
def wH (U:Nat) (b:cB) (c:aT) (d:b_) (e:Int) (a:Unit):Option (Bool):=
 qI U b c d e (-1:Int)
def AI (U:Nat) (d:cB) (e:aT) (f:b_) (g:Int) (a:Int) (b:(Int)->Option (Bool)) (c:Bool):Option (Bool):=
 if c=true then(qI U d e f g (a))else(b (wI .i64 (a+(1:Int))))
def wJ (U:Nat) (d:cB) (e:aT) (f:b_) (g:Int) (b:Int) (a:(Int)->Option (Bool)) (c:Bool):Option (Bool):=
 AI U d e f g b a (c)
def rW (U:Nat) (c:cB) (g:aT) (e:b_) (b:Int) (a:Int) (d:(Int)->Option (Bool)):Option (Bool):=
 if a<(List.length (at' c.2 b):Int)then(ck (0<=a∧a<(List.length (at' c.2 b):Int)) (ck (0<=((at' (at' c.2 b) a).1)∧((at' (at' c.2 b) a).1)<(List.length e:Int)) (Option.bind (AL U ((((at' e ((at' (at' c.2 b) a).1)).1),((at' e ((at' (at' c.2 b) a).1)).2))) ((at' e b).1)) λf=>(wJ U c g e b a d ((!f))))))else(wH U c g e b (()))
def wB (U:Nat) (e:Int) (c:cB) (f:aT) (d:b_) (a:Int) (b:Bool):Option (Bool):=
 if b=true then(some (false))else(if e=(3:Int)then(ck (0<=a∧a<(List.length c.2:Int)) (bP (rV U c d a) U (0:Int)))else(ck (0<=a∧a<(List.length c.2:Int)) (bP (rW U c f d a) U (0:Int))))
def rR (U:Nat) (e:Int) (b:cB) (d:aT) (c:b_) (a:Int) (f:Unit):Option (Bool):=
 if e=(1:Int)then(ck (0<=a∧a<(List.length d:Int)) (if(at' d a)<(0:Int)then(ck (0<=a∧a<(List.length b.2:Int)) (bP (rT U b c a) U (0:Int)))else(ck (0<=a∧a<(List.length b.2:Int)) (bP (rU U b d c a) U (0:Int)))))else(if e=(2:Int)then(ck (0<=a∧a<(List.length d:Int)) (if(at' d a)=(1:Int)then(ck (0<=a∧a<(List.length b.2:Int)) (bP (fM U b c a) U (0:Int)))else(ck (0<=a∧a<(List.length b.2:Int)) (bP (fN U b c a) U (0:Int)))))else(if((at' c a).1)≠(0:Int)then(wB U e b d c a (decide (((at' c a).1)≠(1:Int))))else(wB U e b d c a (false))))
def kV (U:Nat) (c:Int) (d:cB) (e:aT) (b:b_) (a:Int):Option (Bool):=
 ck (0<=a∧a<(List.length b:Int)) (ck (0<=a∧a<(List.length b:Int)) (rR U c d e b a (())))
theorem Xu:aQ Tryz.prog 122:=Tryz.call122
theorem G_ (U:Nat) {p0:Int} {b:cB} {v:aT} {d:b_} {a:Int} (g:Value)  (j:Value)  (C:mH)  (H:Value)  (q:Value) (r:Bool) (h:kV U p0 b v d a=some r):
  bA Tryz.prog 122 #[vI (p0),Value.agg #[g,j],H,q,vI (a)] [Sl bN g b.1,S2 aO j C b.2,Sl bN H v,Sl aO q d] (λx:Unit=>vB (r)) (λx l=>l) (λ_ l=>l):=by
 refine bA.of Tryz.func122 Z Tryz.ntmps122 Z λc=>?_;unfold kV at h;refine aS<|aG (aJ.box (cs:=[g,j]) Z Z) Z λt=>dB (Know.one ((aE.fact 3 Z))) λdV=>?_;refine aG (aJ.box (cs:=[q]) Z (by rw[iL dV])) Z λf=>?_;refine aG (aJ.box (cs:=[vI (a)]) Z Z) Z λu=>aC Z<|aK<|aI<|Cz (B:=Nat×Nat) (λa7=>rR U p0 b v d a a7=some r) (λa7 e=>[(0,vI (p0)),(2,H),(6,vP t),(8,vP f),(9,vP u),(11,vP e.1),(12,vP e.2)]) (λa7 e=>[bH e.2 [vI ((at' d a).2)] 3,bH e.1 [vI ((at' d a).1)] 3,bH u [vI (a)] 3,bH f [q] 49,bH t [g,j] 27]) ?_ ?_
 ·have⟨j311,h⟩:=Lu h;refine dK h λbg h=>Gm [0,0,3,7,15,0,0,96,224,480,0,0,3103,8191] 13 [[0,1,2,3,4,5,6,7,8,9,10,11,12,13],[0,1,2,3,4,5,6,7,8,9,11,10,12,13]] mixedOrders (by decide +kernel) (by decide +kernel) ?_;intro o ho;simp only[List.mem_cons,List.not_mem_nil,or_false]at ho;rcases ho with rfl|rfl
  ·refine dY 1 Z<|dY 0 Z<|bI Z .nil (h_ 3 Z) (aZ Z Z (aE.fact 0 Z) Z Z j311) aN.z ?_;refine fY Z (pG (i:=0) Z Z Z Z Z (by decide)) ?_;refine bI Z .nil (h_ 3 Z) (jK Z (aE.fact 0 Z) Z Z Z oM j311) aN.z<|dY 1 Z<|dY 0 Z<|bI Z .nil (h_ 3 Z) (aZ Z Z (aE.fact 0 Z) Z Z bg) aN.z ?_;refine fY Z (pG (i:=1) Z Z Z Z Z (by decide)) ?_;refine bI Z .nil (h_ 3 Z) (jK Z (aE.fact 0 Z) Z Z Z Ch bg) aN.z<|JR.loud Z Z Z (aJ.alloc (cs:=[vI (0:Int)]) Z Z) Z (λcp=>(jV [([],[3]),([],[3]),([1],[]),([2],[]),([],[3]),([],[3]),([1],[]),([2],[])] Z)) λcp=>JR.loud Z Z Z (aJ.alloc (cs:=[vI (0:Int)]) Z Z) Z (λcq=>(jV [([],[3]),([],[3]),([2],[]),([3],[]),([],[3]),([],[3]),([2],[]),([3],[])] Z)) λcq=>oC Z Z Z (Da 1 Z Z Z Z Z Z) (λdS=>(jV [([],[3]),([],[3]),([2],[]),([3],[])] Z)) λdS=>bK 13 Z Z<|gR 0 Z Z Z Z Z Z<|aK ?_;exact iI () (cp,cq) h SF Z
  refine dY 1 Z<|dY 0 Z<|bI Z .nil (h_ 3 Z) (aZ Z Z (aE.fact 0 Z) Z Z j311) aN.z ?_;refine fY Z (pG (i:=0) Z Z Z Z Z (by decide)) ?_;refine bI Z .nil (h_ 3 Z) (jK Z (aE.fact 0 Z) Z Z Z oM j311) aN.z<|dY 1 Z<|dY 0 Z<|bI Z .nil (h_ 3 Z) (aZ Z Z (aE.fact 0 Z) Z Z bg) aN.z ?_;refine fY Z (pG (i:=1) Z Z Z Z Z (by decide)) ?_;refine bI Z .nil (h_ 3 Z) (jK Z (aE.fact 0 Z) Z Z Z Ch bg) aN.z<|JR.loud Z Z Z (aJ.alloc (cs:=[vI (0:Int)]) Z Z) Z (λcr=>(jV [([],[3]),([],[3]),([1],[]),([2],[]),([],[3]),([],[3]),([1],[]),([2],[])] Z)) λcr=>JR.loud Z Z Z (aJ.alloc (cs:=[vI (0:Int)]) Z Z) Z (λct=>(jV [([],[3]),([],[3]),([2],[]),([3],[]),([],[3]),([],[3]),([2],[]),([3],[])] Z)) λct=>oC Z Z Z (Da 0 Z Z Z Z Z Z) (λdT=>(jV [([],[3]),([],[3]),([2],[]),([3],[])] Z)) λdT=>bK 13 Z Z<|gR 1 Z Z Z Z Z Z<|aK ?_;exact bT () (ct,cr) h SF (aY.ix [1,0,2,3,4] Z Z) (aD.refl _ _)
 intro a7 e h;refine aS<|aB (dZ (cs:=[.tmp 6,.tmp 9,.tmp 8]) (vs:=[vP t,vP u,vP f]) Z) Z<|aG (aJ.alloc (cs:=[Value.nilFunc]) Z Z) Z λb9=>gR 0 Z Z Z Z Z Z<|aK<|aS<|aB (dZ (cs:=[.tmp 13]) (vs:=[vP b9]) Z) Z<|aC Z<|aK<|aS<|aB (dZ (cs:=[.tmp 11]) (vs:=[vP e.1]) Z) Z<|aC Z<|aK<|aS<|aB (dZ (cs:=[.tmp 12]) (vs:=[vP e.2]) Z) Z<|aC Z<|aK<|aI<|aS<|aA Z<|aK<|aU<|aS<|cC Z<|aC Z<|aK ?_;refine eZ h Z (λh=>?_) λh=>?_
 ·refine aI<|aS<|aA Z<|cJ 3 Z<|dK h λdp h=>aB (aZ Z Z (aE.fact 2 Z) Z Z dp) Z<|aB (bU Z (aE.fact 2 Z) Z Z Z cS dp) Z<|cP Z<|aK ?_;refine eZ h Z (λh=>?_) λh=>?_
  ·refine aI<|d_ (λbm=>oF  bm=some r) (λbm di=>[(10,vB (bm))]) (λbm di=>[]) ?_ ?_
   ·refine JR.start [0,0,3,7,15,15,47,15,239,495,1023,2047,4095,8191,16383,32767,65535] 10 mixedOrders (by decide +kernel) ?_;refine JR.open (by exact rfl) ?_;refine bE Z<|bE Z<|Fq (A:=Bool) (B:=Unit) (vs:=[Value.func (.func 193) #[] #[vP e.1],vP b9]) (λbh=>xI b d a bh=some r) (λbh c8=>vB (bh)) (λbh c8=>[bH e.2 [vI ((at' d a).2)] 3,bH e.1 [vI ((at' d a).1)] 3,bH u [vI (a)] 3,bH t [g,j] 27]) (λbh c8=>[Sl bN g b.1,S2 aO j C b.2,Sl bN H v,Sl aO q d]) Z Z Z (eC (us:=[Value.func (.func 193) #[] #[vP e.1]]) (cs:=[vP b9]) (show aQ Tryz.prog 191 from Tryz.call191) Z Z Z) Tryz.func191 Z Tryz.ntmps191 Z Z (λ_ _=>(jV [] Z)) ?_ ?_
    ·refine aS<|aG (aJ.box (cs:=[Value.func (.func 193) #[] #[vP e.1]]) Z Z) Z λR=>aC Z<|aK<|aS<|cJ 1 Z<|aB (dZ (cs:=[.tmp 2]) (vs:=[vP R]) Z) Z<|gE (A:=Bool) (B:=Unit) (vs:=[Value.func (.func 192) #[] #[vP R],vP t,vP u,vP f]) (λa0=>xJ b d a a0=some r) (λa0 c9=>vB (a0)) (λa0 c9=>[bH e.2 [vI ((at' d a).2)] 3,bH e.1 [vI ((at' d a).1)] 3,bH u [vI (a)] 3,bH t [g,j] 27]) (λa0 c9=>[Sl bN g b.1,S2 aO j C b.2,Sl bN H v,Sl aO q d]) (eC (us:=[Value.func (.func 192) #[] #[vP R]]) (cs:=[vP t,vP u,vP f]) (show aQ Tryz.prog 189 from Tryz.call189) Z Z Z) Tryz.func189 Z Tryz.ntmps189 Z Z ?_ ?_
     ·refine aS<|aG (aJ.box (cs:=[Value.func (.func 192) #[] #[vP R]]) Z Z) Z λaF=>aC Z<|aK<|aS<|dM 7 Z<|cJ 5 Z<|aB (dZ (cs:=[.tmp 4,.tmp 3]) (vs:=[vP aF,vP f]) Z) Z<|gE (A:=Int) (B:=Unit) (vs:=[Value.agg #[g,j],vI (a),Value.func (.func 190) #[] #[vP aF,vP f]]) (λa1=>rS b d a a1=some r) (λa1 da=>vI (a1)) (λa1 da=>[bH e.2 [vI ((at' d a).2)] 3,bH e.1 [vI ((at' d a).1)] 3,bH u [vI (a)] 3,bH t [g,j] 27]) (λa1 da=>[Sl bN g b.1,S2 aO j C b.2,Sl bN H v,Sl aO q d]) (fU.fn (show aQ Tryz.prog 40 from Tryz.call40) Z) Tryz.func40 Z Tryz.ntmps40 Z Z ?_ ?_
      ·refine aS<|aG (aJ.box (cs:=[g,j]) Z Z) Z λeq=>aC Z<|aK<|aI<|d_ (λb7=>xK b d a b7=some r) (λb7 dj=>[]) (λb7 dj=>[bH e.2 [vI ((at' d a).2)] 3,bH e.1 [vI ((at' d a).1)] 3,bH u [vI (a)] 3,bH t [g,j] 27]) ?_ ?_
       ·refine aS<|bX Z<|cJ 0 Z<|aA Z<|dK h λaW h=>aB (cQ Z Z (aE.fact 1 Z) Z Z aW) Z<|aB (cL Z (aE.fact 1 Z) Z Z aW) Z<|aB (fG Z (aE.el (aE.fact 1 Z) aW.1 aW.2) Z) Z<|aA Z<|aK<|aU<|eH (rT U b d a) (λw dk=>[(2,Value.func (.func 190) #[] #[vP aF,vP f]),(13,(at' C a).1),(14,vI (List.length (at' b.2 a):Int)),(15,vI (w))]) (λw dk=>[bH aF [Value.func (.func 192) #[] #[vP R]] 203,bH R [Value.func (.func 193) #[] #[vP e.1]] 203,bH e.2 [vI ((at' d a).2)] 3,bH e.1 [vI ((at' d a).1)] 3,bH u [vI (a)] 3,bH f [q] 49,bH t [g,j] 27]) (0:Int) () h SF (aY.ix [1,2,4,5,6,7,8] Z Z) ?_;intro dz w dk h;refine aS<|cP Z<|aK<|aI ?_;refine eZ h Z (λh=>?_) λh=>?_
        ·refine cE<|aI<|aU<|aS<|aA Z<|dK h λdr h=>aB (aZ Z Z (aE.el (aE.fact 1 Z) aW.1 aW.2) Z Z dr) Z<|aB (c_ (cs:=[vI ((at' (at' b.2 a) w).1),vI ((at' (at' b.2 a) w).2)]) Z (aE.el (aE.fact 1 Z) aW.1 aW.2) bB Z Z Z Z dr) Z<|aG (aJ.alloc (cs:=Ms) Z Z) Z λer=>aC Z<|bR 0 (vs:=[vI ((at' (at' b.2 a) w).1),vI ((at' (at' b.2 a) w).2)]) Z Z Z Z Z Z<|aK<|aS<|aA Z<|dM 0 Z<|gE (A:=Bool) (B:=Unit) (vs:=[Value.agg #[vI ((at' (at' b.2 a) w).1),vI ((at' (at' b.2 a) w).2)],vP aF,vP f]) (λbi=>Bm b d a w (bP (rT U b d a) dz) bi=some r) (λbi db=>vB (bi)) (λbi db=>[bH aF [Value.func (.func 192) #[] #[vP R]] 203,bH R [Value.func (.func 193) #[] #[vP e.1]] 203,bH e.2 [vI ((at' d a).2)] 3,bH e.1 [vI ((at' d a).1)] 3,bH u [vI (a)] 3,bH f [q] 49,bH t [g,j] 27]) (λbi db=>[Sl bN g b.1,S2 aO j C b.2,Sl bN H v,Sl aO q d]) (eC (us:=[Value.agg #[vI ((at' (at' b.2 a) w).1),vI ((at' (at' b.2 a) w).2)]]) (cs:=[vP aF,vP f]) (show aQ Tryz.prog 190 from Tryz.call190) Z Z Z) Tryz.func190 Z Tryz.ntmps190 Z Z ?_ ?_
         ·refine aS<|aG (aJ.box (cs:=[vI ((at' (at' b.2 a) w).1),vI ((at' (at' b.2 a) w).2)]) Z Z) Z λes=>aC Z<|aK<|aI ?_;refine JR.start [0,0,0,4,14,30,63,127] 6 mixedOrders (by decide +kernel) ?_;refine JR.open (by exact rfl) ?_;refine dY 2 Z<|dY 7 Z<|cN Z<|dY 0 Z<|dK h λds h=>bI Z .nil (h_ 3 Z) (aZ Z Z (aE.fact 0 Z) Z Z ds) aN.z<|bI Z .nil (h_ 3 Z) (c_ (cs:=[vI ((at' d ((at' (at' b.2 a) w).1)).1),vI ((at' d ((at' (at' b.2 a) w).1)).2)]) Z (aE.fact 0 Z) bB Z Z Z Z ds) aN.z<|bK 6 Z Z<|gE (A:=Bool) (B:=Unit) (vs:=[Value.agg #[vI ((at' d ((at' (at' b.2 a) w).1)).1),vI ((at' d ((at' (at' b.2 a) w).1)).2)],vP R]) (λa2=>xL b d a w (bP (rT U b d a) dz) a2=some r) (λa2 dc=>vB (a2)) (λa2 dc=>[bH aF [Value.func (.func 192) #[] #[vP R]] 203,bH R [Value.func (.func 193) #[] #[vP e.1]] 203,bH e.2 [vI ((at' d a).2)] 3,bH e.1 [vI ((at' d a).1)] 3,bH u [vI (a)] 3,bH f [q] 49,bH t [g,j] 27]) (λa2 dc=>[Sl bN g b.1,S2 aO j C b.2,Sl bN H v,Sl aO q d]) (eC (us:=[Value.agg #[vI ((at' d ((at' (at' b.2 a) w).1)).1),vI ((at' d ((at' (at' b.2 a) w).1)).2)]]) (cs:=[vP R]) (show aQ Tryz.prog 192 from Tryz.call192) Z Z Z) Tryz.func192 Z Tryz.ntmps192 Z Z ?_ ?_
          ·refine aS<|aG (aJ.box (cs:=[vI ((at' d ((at' (at' b.2 a) w).1)).1),vI ((at' d ((at' (at' b.2 a) w).1)).2)]) Z Z) Z λet=>aC Z<|aK<|aS<|cJ 4 Z<|dM 0 Z<|eL h λdD dW h=>aG (fQ (vs:=[Value.agg #[vI ((at' d ((at' (at' b.2 a) w).1)).1),vI ((at' d ((at' (at' b.2 a) w).1)).2)]]) (cs:=[vP e.1]) HW Z (qM U e.1 dD dW) Z (aD.cons (aE.res 6 Z) .nil) (λ_ _=>rfl)) Z λey=>aB (iZ Z) Z<|aC Z<|aK<|aP ?_;exact dO ((!dD)) () h (.inl Z) (uO.r1 Z (RV.tmp Z)) Z (aY.ix [3,4,5,6,7,8,9] Z Z) (aD.refl _ _)
          intro a2 dc h;unfold xL at h;refine aC Z<|aK<|aP ?_;exact dO (a2) () h (.inl Z) (uO.r1 Z (RV.tmp Z)) Z (aY.refl _) (aD.refl _ _)
         intro bi db h;refine aK ?_;refine yC h Z (λ_ h=>?_) λ_ h=>?_
         ·refine aS<|aA Z<|aC Z<|aK<|aP<|bO<|aH<|aH<|bO<|aH ?_;exact dO (w) () h (.inl Z) (uO.r1 Z (RV.tmp Z)) Z (aY.ix [2,3,4,6] Z Z) (aD.refl _ _)
         refine dJ<|mP<|aR<|cO Z<|aA Z<|aK ?_;exact Ai (wI .i64 (w+(1:Int))) () h SF Z
        refine fE ?_;exact bT () (()) h SF (aY.ix [2,3,4,6] Z Z) (aD.refl _ _)
       intro b7 dj h;unfold xK at h;refine aS<|aC Z<|aK<|aP ?_;exact dO (-1:Int) () h (.inl Z) (uO.r1 Z (RV.tmp Z)) Z (aY.refl _) (aD.refl _ _)
      intro a1 da h;unfold rS at h;refine aB (wP Z Z) Z<|aC Z<|aK<|aP ?_;exact dO (decide ((0:Int)<=a1)) () h (.inl Z) (uO.r1 Z (RV.tmp Z)) Z (aY.refl _) (aD.refl _ _)
     intro a0 c9 h;unfold xJ at h;refine aB (iZ Z) Z<|aC Z<|aK<|aP ?_;exact dO ((!a0)) () h (.inl Z) (uO.r1 Z (RV.tmp Z)) Z (aY.refl _) (aD.refl _ _)
    intro bh c8 h;unfold xI at h;refine fY Z (fC Z) ?_;refine JR.guard (by exact rfl) (by exact rfl) (by exact rfl) (λb3=>?_) (λb3=>?_)
    ·have h:=Ie b3 h;refine cD Z (aY.cons 1 Z .nil) .nil (cK 0 Z Z Z Z Z) (Bl Z)<|cD Z .nil .nil (dR Z Z Z Z Z) (Bl Z)<|cD Z (aY.cons 3 Z .nil) .nil (cK 0 Z Z Z Z Z) (Bl Z)<|cD Z (aY.cons 2 Z .nil) .nil (cK 0 Z Z Z Z Z) (Bl Z)<|dK h λdq h=>cD Z .nil (h_ 0 Z) (aZ Z Z (aE.fact 0 Z) Z Z dq) (Bl Z)<|cD Z .nil (h_ 0 Z) (bU Z (aE.fact 0 Z) Z Z Z cS dq) (Bl Z)<|bK 10 Z Z<|aV Z (De Z Z) Z<|dU Z<|aA Z ?_;refine Cd h Z (λ_ h=>?_) λ_ h=>?_
     ·refine aV Z (cK 0 Z Z Z Z Z) Z<|aV Z (De Z Z) Z<|dU Z<|aC Z<|aK ?_;exact bT (decide (((at' d a).2)=(0:Int))) () h SF .nil (aD.refl _ _)
     refine aL Z<|aL Z<|e_ Z<|aC Z<|aK ?_;exact bT (false) () h SF .nil (aD.refl _ _)
    have h:=Je b3 h;refine a_ Z Z Z Z<|a_ Z Z Z Z<|a_ Z Z Z Z<|a_ Z Z Z Z<|a_ Z Z Z Z<|a_ Z Z Z Z<|bK 10 Z Z<|aL Z<|e_ Z<|aA Z<|aL Z<|aL Z<|e_ Z<|aC Z<|aK ?_;exact bT (false) () h SF .nil (aD.refl _ _)
   intro bm di h;unfold oF at h;refine aP<|aH<|bO<|aH ?_;cases h;exact kM Z
  refine cE<|aI<|d_ (λbn=>oG  bn=some r) (λbn dl=>[(10,vB (bn))]) (λbn dl=>[]) ?_ ?_
  ·refine JR.start [0,0,3,7,15,31,63,127,255,255,255,1279,255,7423,15615,255,255,98559,229631,523519,1047807,2096383,4194047,8388351,16777215,33554431,67108863] 24 mixedOrders (by decide +kernel) ?_;refine JR.open (by exact rfl) ?_;refine bE Z<|bE Z<|Fq (A:=Bool) (B:=Unit) (vs:=[Value.func (.func 193) #[] #[vP e.1],vP b9]) (λbj=>vQ U b v d a bj=some r) (λbj dd=>vB (bj)) (λbj dd=>[bH e.2 [vI ((at' d a).2)] 3,bH u [vI (a)] 3,bH f [q] 49,bH t [g,j] 27]) (λbj dd=>[Sl bN g b.1,S2 aO j C b.2,Sl bN H v,Sl aO q d]) Z Z Z (eC (us:=[Value.func (.func 193) #[] #[vP e.1]]) (cs:=[vP b9]) (show aQ Tryz.prog 191 from Tryz.call191) Z Z Z) Tryz.func191 Z Tryz.ntmps191 Z Z (λ_ _=>(jV [] Z)) ?_ ?_
   ·refine aS<|aG (aJ.box (cs:=[Value.func (.func 193) #[] #[vP e.1]]) Z Z) Z λS=>aC Z<|aK<|aS<|cJ 1 Z<|aB (dZ (cs:=[.tmp 2]) (vs:=[vP S]) Z) Z<|gE (A:=Bool) (B:=Unit) (vs:=[Value.func (.func 192) #[] #[vP S],vP t,vP u,vP f]) (λa3=>vR U b v d a a3=some r) (λa3 de=>vB (a3)) (λa3 de=>[bH e.2 [vI ((at' d a).2)] 3,bH u [vI (a)] 3,bH f [q] 49,bH t [g,j] 27]) (λa3 de=>[Sl bN g b.1,S2 aO j C b.2,Sl bN H v,Sl aO q d]) (eC (us:=[Value.func (.func 192) #[] #[vP S]]) (cs:=[vP t,vP u,vP f]) (show aQ Tryz.prog 189 from Tryz.call189) Z Z Z) Tryz.func189 Z Tryz.ntmps189 Z Z ?_ ?_
    ·refine aS<|aG (aJ.box (cs:=[Value.func (.func 192) #[] #[vP S]]) Z Z) Z λaM=>aC Z<|aK<|aS<|dM 7 Z<|cJ 5 Z<|aB (dZ (cs:=[.tmp 4,.tmp 3]) (vs:=[vP aM,vP f]) Z) Z<|gE (A:=Int) (B:=Unit) (vs:=[Value.agg #[g,j],vI (a),Value.func (.func 190) #[] #[vP aM,vP f]]) (λa4=>qD U b v d a a4=some r) (λa4 df=>vI (a4)) (λa4 df=>[bH e.2 [vI ((at' d a).2)] 3,bH u [vI (a)] 3,bH f [q] 49,bH t [g,j] 27]) (λa4 df=>[Sl bN g b.1,S2 aO j C b.2,Sl bN H v,Sl aO q d]) (fU.fn (show aQ Tryz.prog 40 from Tryz.call40) Z) Tryz.func40 Z Tryz.ntmps40 Z Z ?_ ?_
     ·refine aS<|aG (aJ.box (cs:=[g,j]) Z Z) Z λeu=>aC Z<|aK<|aI<|d_ (λca=>vT U b v d a ca=some r) (λca dm=>[]) (λca dm=>[bH e.2 [vI ((at' d a).2)] 3,bH u [vI (a)] 3,bH f [q] 49,bH t [g,j] 27]) ?_ ?_
      ·refine aS<|bX Z<|cJ 0 Z<|aA Z<|dK h λaX h=>aB (cQ Z Z (aE.fact 1 Z) Z Z aX) Z<|aB (cL Z (aE.fact 1 Z) Z Z aX) Z<|aB (fG Z (aE.el (aE.fact 1 Z) aX.1 aX.2) Z) Z<|aA Z<|aK<|aU<|eH (rU U b v d a) (λy dn=>[(2,Value.func (.func 190) #[] #[vP aM,vP f]),(13,(at' C a).1),(14,vI (List.length (at' b.2 a):Int)),(15,vI (y))]) (λy dn=>[bH aM [Value.func (.func 192) #[] #[vP S]] 203,bH S [Value.func (.func 193) #[] #[vP e.1]] 203,bH e.2 [vI ((at' d a).2)] 3,bH e.1 [vI ((at' d a).1)] 3,bH u [vI (a)] 3,bH f [q] 49,bH t [g,j] 27]) (0:Int) () h SF (aY.ix [1,2,4,5,6,7,8] Z Z) ?_;intro dA y dn h;refine aS<|cP Z<|aK<|aI ?_;refine eZ h Z (λh=>?_) λh=>?_
       ·refine cE<|aI<|aU<|aS<|aA Z<|dK h λdw h=>aB (aZ Z Z (aE.el (aE.fact 1 Z) aX.1 aX.2) Z Z dw) Z<|aB (c_ (cs:=[vI ((at' (at' b.2 a) y).1),vI ((at' (at' b.2 a) y).2)]) Z (aE.el (aE.fact 1 Z) aX.1 aX.2) bB Z Z Z Z dw) Z<|aG (aJ.alloc (cs:=Ms) Z Z) Z λev=>aC Z<|bR 0 (vs:=[vI ((at' (at' b.2 a) y).1),vI ((at' (at' b.2 a) y).2)]) Z Z Z Z Z Z<|aK<|aS<|aA Z<|dM 0 Z<|gE (A:=Bool) (B:=Unit) (vs:=[Value.agg #[vI ((at' (at' b.2 a) y).1),vI ((at' (at' b.2 a) y).2)],vP aM,vP f]) (λbk=>AF U b v d a y (bP (rU U b v d a) dA) bk=some r) (λbk dg=>vB (bk)) (λbk dg=>[bH aM [Value.func (.func 192) #[] #[vP S]] 203,bH S [Value.func (.func 193) #[] #[vP e.1]] 203,bH e.2 [vI ((at' d a).2)] 3,bH e.1 [vI ((at' d a).1)] 3,bH u [vI (a)] 3,bH f [q] 49,bH t [g,j] 27]) (λbk dg=>[Sl bN g b.1,S2 aO j C b.2,Sl bN H v,Sl aO q d]) (eC (us:=[Value.agg #[vI ((at' (at' b.2 a) y).1),vI ((at' (at' b.2 a) y).2)]]) (cs:=[vP aM,vP f]) (show aQ Tryz.prog 190 from Tryz.call190) Z Z Z) Tryz.func190 Z Tryz.ntmps190 Z Z ?_ ?_
        ·refine aS<|aG (aJ.box (cs:=[vI ((at' (at' b.2 a) y).1),vI ((at' (at' b.2 a) y).2)]) Z Z) Z λew=>aC Z<|aK<|aI ?_;refine JR.start [0,0,0,4,14,30,63,127] 6 mixedOrders (by decide +kernel) ?_;refine JR.open (by exact rfl) ?_;refine dY 2 Z<|dY 7 Z<|cN Z<|dY 0 Z<|dK h λdx h=>bI Z .nil (h_ 3 Z) (aZ Z Z (aE.fact 0 Z) Z Z dx) aN.z<|bI Z .nil (h_ 3 Z) (c_ (cs:=[vI ((at' d ((at' (at' b.2 a) y).1)).1),vI ((at' d ((at' (at' b.2 a) y).1)).2)]) Z (aE.fact 0 Z) bB Z Z Z Z dx) aN.z<|bK 6 Z Z<|gE (A:=Bool) (B:=Unit) (vs:=[Value.agg #[vI ((at' d ((at' (at' b.2 a) y).1)).1),vI ((at' d ((at' (at' b.2 a) y).1)).2)],vP S]) (λa5=>vV U b v d a y (bP (rU U b v d a) dA) a5=some r) (λa5 dh=>vB (a5)) (λa5 dh=>[bH aM [Value.func (.func 192) #[] #[vP S]] 203,bH S [Value.func (.func 193) #[] #[vP e.1]] 203,bH e.2 [vI ((at' d a).2)] 3,bH e.1 [vI ((at' d a).1)] 3,bH u [vI (a)] 3,bH f [q] 49,bH t [g,j] 27]) (λa5 dh=>[Sl bN g b.1,S2 aO j C b.2,Sl bN H v,Sl aO q d]) (eC (us:=[Value.agg #[vI ((at' d ((at' (at' b.2 a) y).1)).1),vI ((at' d ((at' (at' b.2 a) y).1)).2)]]) (cs:=[vP S]) (show aQ Tryz.prog 192 from Tryz.call192) Z Z Z) Tryz.func192 Z Tryz.ntmps192 Z Z ?_ ?_
         ·refine aS<|aG (aJ.box (cs:=[vI ((at' d ((at' (at' b.2 a) y).1)).1),vI ((at' d ((at' (at' b.2 a) y).1)).2)]) Z Z) Z λex=>aC Z<|aK<|aS<|cJ 4 Z<|dM 0 Z<|eL h λc2 dF h=>aG (fQ (vs:=[Value.agg #[vI ((at' d ((at' (at' b.2 a) y).1)).1),vI ((at' d ((at' (at' b.2 a) y).1)).2)]]) (cs:=[vP e.1]) HW Z (qM U e.1 c2 dF) Z (aD.cons (aE.res 6 Z) .nil) (λ_ _=>rfl)) Z λej=>aB (iZ Z) Z<|aC Z<|aK<|aP ?_;exact dO ((!c2)) () h (.inl Z) (uO.r1 Z (RV.tmp Z)) Z (aY.ix [3,4,5,6,7,8,9] Z Z) (aD.refl _ _)
         intro a5 dh h;unfold vV at h;refine aC Z<|aK<|aP ?_;exact dO (a5) () h (.inl Z) (uO.r1 Z (RV.tmp Z)) Z (aY.refl _) (aD.refl _ _)
        intro bk dg h;refine aK ?_;refine yC h Z (λ_ h=>?_) λ_ h=>?_
        ·refine aS<|aA Z<|aC Z<|aK<|aP<|bO<|aH<|aH<|bO<|aH ?_;exact dO (y) () h (.inl Z) (uO.r1 Z (RV.tmp Z)) Z (aY.ix [2,4,5,6] Z Z) (aD.refl _ _)
        refine dJ<|mP<|aR<|cO Z<|aA Z<|aK ?_;exact Ai (wI .i64 (y+(1:Int))) () h SF Z
       refine fE ?_;exact bT () (()) h SF (aY.ix [2,4,5,6] Z Z) (aD.refl _ _)
      intro ca dm h;unfold vT at h;refine aS<|aC Z<|aK<|aP ?_;exact dO (-1:Int) () h (.inl Z) (uO.r1 Z (RV.tmp Z)) Z (aY.refl _) (aD.refl _ _)
     intro a4 df h;unfold qD at h;refine aB (wP Z Z) Z<|aC Z<|aK<|aP ?_;exact dO (decide ((0:Int)<=a4)) () h (.inl Z) (uO.r1 Z (RV.tmp Z)) Z (aY.refl _) (aD.refl _ _)
    intro a3 de h;unfold vR at h;refine aB (iZ Z) Z<|aC Z<|aK<|aP ?_;exact dO ((!a3)) () h (.inl Z) (uO.r1 Z (RV.tmp Z)) Z (aY.refl _) (aD.refl _ _)
   intro bj dd h;unfold vQ at h;refine fY Z (fC Z) ?_;refine JR.guard (by exact rfl) (by exact rfl) (by exact rfl) (λb5=>?_) (λb5=>?_)
   ·have h:=Ie b5 h;refine cD Z (aY.cons 0 Z .nil) .nil (cK 0 Z Z Z Z Z) (Bl Z)<|cD Z .nil .nil (wP Z Z) (Bl Z)<|fY Z (HV Z Z)<|fY Z (fC Z) ?_;refine Ax (by exact rfl) (by exact rfl) (by exact rfl) (λb6=>?_) (λb6=>?_)
    ·have h:=Ie b6 h;refine cD Z .nil .nil (fC Z) (Bl Z)<|cD Z (aY.cons 2 Z .nil) .nil (cK 0 Z Z Z Z Z) (Bl Z)<|cD Z .nil .nil (dR Z Z Z Z Z) (Bl Z)<|cD Z (aY.cons 3 Z .nil) .nil (cK 0 Z Z Z Z Z) (Bl Z)<|cD Z (aY.cons 1 Z .nil) .nil (cK 0 Z Z Z Z Z) (Bl Z)<|dK h λbl h=>cD Z .nil (h_ 1 Z) (cQ Z Z (aE.fact 0 Z) Z Z bl) (Bl Z)<|cD Z .nil (h_ 1 Z) (cL Z (aE.fact 0 Z) Z Z bl) (Bl Z)<|cD Z .nil .nil (fC Z) (Bl Z)<|cD Z (aY.cons 1 Z .nil) .nil (cK 0 Z Z Z Z Z) (Bl Z)<|dK h λdt h=>cD Z .nil (h_ 2 Z) (aZ Z Z (aE.fact 0 Z) Z Z dt) (Bl Z)<|cD Z .nil (h_ 2 Z) (bU Z (aE.fact 0 Z) Z Z Z cS dt) (Bl Z)<|dK h λdu h=>cD Z .nil (h_ 1 Z) (aZ Z Z (aE.el (aE.fact 0 Z) bl.1 bl.2) Z Z du) (Bl Z)<|cD Z .nil .nil (mC Z Z Z Z Z) (Bl Z)<|cD Z .nil (h_ 1 Z) (jK Z (aE.el (aE.fact 0 Z) bl.1 bl.2) Z Z Z oM du) (Bl Z)<|dK h λdv h=>cD Z .nil (h_ 3 Z) (aZ Z Z (aE.fact 0 Z) Z Z dv) (Bl Z)<|cD Z .nil (h_ 3 Z) (c_ (cs:=[vI ((at' d ((at' (at' b.2 a) (at' v a)).1)).1),vI ((at' d ((at' (at' b.2 a) (at' v a)).1)).2)]) Z (aE.fact 0 Z) bB Z Z Z Z dv) (Bl Z)<|bK 24 Z Z<|eL h λdE dX h=>rQ Z (fQ (vs:=[Value.agg #[vI ((at' d ((at' (at' b.2 a) (at' v a)).1)).1),vI ((at' d ((at' (at' b.2 a) (at' v a)).1)).2)]]) (cs:=[vP e.2]) Qv Z (AV U e.2 dE dX) Z (aD.cons (aE.res 0 Z) .nil) (λ_ _=>rfl)) Z λez=>dU Z<|aC Z<|aK ?_;exact bT (dE) () h SF .nil (aD.refl _ _)
    have h:=SH b6 h;refine a_ Z Z Z Z<|a_ Z Z Z Z<|a_ Z Z Z Z<|a_ Z Z Z Z<|a_ Z Z Z Z<|a_ Z Z Z Z<|a_ Z Z Z Z<|a_ Z Z Z Z<|a_ Z Z Z Z<|a_ Z Z Z Z<|a_ Z Z Z Z<|a_ Z Z Z Z<|a_ Z Z Z Z<|a_ Z Z Z Z<|a_ Z Z Z Z<|a_ Z Z Z Z<|bK 24 Z Z<|aL Z<|e_ Z<|aC Z<|aK ?_;exact bT (false) () h SF .nil (aD.refl _ _)
   have h:=Je b5 h;refine a_ Z Z Z Z<|a_ Z Z Z Z<|fY Z (HU Z Z)<|fY Z (fC Z)<|a_ Z Z Z Z<|a_ Z Z Z Z<|a_ Z Z Z Z<|a_ Z Z Z Z<|a_ Z Z Z Z<|a_ Z Z Z Z<|a_ Z Z Z Z<|a_ Z Z Z Z<|a_ Z Z Z Z<|a_ Z Z Z Z<|a_ Z Z Z Z<|a_ Z Z Z Z<|a_ Z Z Z Z<|a_ Z Z Z Z<|a_ Z Z Z Z<|a_ Z Z Z Z<|bK 24 Z Z<|aL Z<|e_ Z<|aC Z<|aK ?_;exact bT (false) () h SF .nil (aD.refl _ _)
  intro bn dl h;unfold oG at h;refine aP<|bO<|aH ?_;cases h;exact kM Z
 refine aS<|cC Z<|aC Z<|aK ?_;refine eZ h Z (λh=>?_) λh=>?_
 ·refine aI<|aS<|aA Z<|cJ 3 Z<|dK h λcu h=>aB (aZ Z Z (aE.fact 2 Z) Z Z cu) Z<|aB (bU Z (aE.fact 2 Z) Z Z Z cS cu) Z<|cC Z<|aK ?_;refine eZ h Z (λh=>?_) λh=>?_
  ·refine aI<|d_ (λaw=>kQ  aw=some r) (λaw cb=>[(10,vB (aw))]) (λaw cb=>[]) ?_ ?_
   ·refine JR.start [0,0,3,7,15,15,47,15,239,495,1023,2047,4095,8191,16383,32767,65535] 10 mixedOrders (by decide +kernel) ?_;refine JR.open (by exact rfl) ?_;refine bE Z<|bE Z<|Fq (A:=Bool) (B:=Unit) (vs:=[Value.func (.func 193) #[] #[vP e.1],vP b9]) (λak=>kR b d a ak=some r) (λak bo=>vB (ak)) (λak bo=>[bH e.2 [vI ((at' d a).2)] 3,bH e.1 [vI ((at' d a).1)] 3,bH u [vI (a)] 3,bH t [g,j] 27]) (λak bo=>[Sl bN g b.1,S2 aO j C b.2,Sl bN H v,Sl aO q d]) Z Z Z (eC (us:=[Value.func (.func 193) #[] #[vP e.1]]) (cs:=[vP b9]) (show aQ Tryz.prog 191 from Tryz.call191) Z Z Z) Tryz.func191 Z Tryz.ntmps191 Z Z (λ_ _=>(jV [] Z)) ?_ ?_
    ·refine aS<|aG (aJ.box (cs:=[Value.func (.func 193) #[] #[vP e.1]]) Z Z) Z λD=>aC Z<|aK<|aS<|cJ 1 Z<|aB (dZ (cs:=[.tmp 2]) (vs:=[vP D]) Z) Z<|gE (A:=Bool) (B:=Unit) (vs:=[Value.func (.func 192) #[] #[vP D],vP t,vP u,vP f]) (λT=>vW b d a T=some r) (λT bp=>vB (T)) (λT bp=>[bH e.2 [vI ((at' d a).2)] 3,bH e.1 [vI ((at' d a).1)] 3,bH u [vI (a)] 3,bH t [g,j] 27]) (λT bp=>[Sl bN g b.1,S2 aO j C b.2,Sl bN H v,Sl aO q d]) (eC (us:=[Value.func (.func 192) #[] #[vP D]]) (cs:=[vP t,vP u,vP f]) (show aQ Tryz.prog 189 from Tryz.call189) Z Z Z) Tryz.func189 Z Tryz.ntmps189 Z Z ?_ ?_
     ·refine aS<|aG (aJ.box (cs:=[Value.func (.func 192) #[] #[vP D]]) Z Z) Z λI=>aC Z<|aK<|aS<|dM 7 Z<|cJ 5 Z<|aB (dZ (cs:=[.tmp 4,.tmp 3]) (vs:=[vP I,vP f]) Z) Z<|gE (A:=Int) (B:=Unit) (vs:=[Value.agg #[g,j],vI (a),Value.func (.func 190) #[] #[vP I,vP f]]) (λV=>mR b d a V=some r) (λV bq=>vI (V)) (λV bq=>[bH e.2 [vI ((at' d a).2)] 3,bH e.1 [vI ((at' d a).1)] 3,bH u [vI (a)] 3,bH t [g,j] 27]) (λV bq=>[Sl bN g b.1,S2 aO j C b.2,Sl bN H v,Sl aO q d]) (fU.fn (show aQ Tryz.prog 40 from Tryz.call40) Z) Tryz.func40 Z Tryz.ntmps40 Z Z ?_ ?_
      ·refine aS<|aG (aJ.box (cs:=[g,j]) Z Z) Z λd0=>aC Z<|aK<|aI<|d_ (λbb=>vX b d a bb=some r) (λbb cc=>[]) (λbb cc=>[bH e.2 [vI ((at' d a).2)] 3,bH e.1 [vI ((at' d a).1)] 3,bH u [vI (a)] 3,bH t [g,j] 27]) ?_ ?_
       ·refine aS<|bX Z<|cJ 0 Z<|aA Z<|dK h λM h=>aB (cQ Z Z (aE.fact 1 Z) Z Z M) Z<|aB (cL Z (aE.fact 1 Z) Z Z M) Z<|aB (fG Z (aE.el (aE.fact 1 Z) M.1 M.2) Z) Z<|aA Z<|aK<|aU<|eH (fM U b d a) (λk cd=>[(2,Value.func (.func 190) #[] #[vP I,vP f]),(13,(at' C a).1),(14,vI (List.length (at' b.2 a):Int)),(15,vI (k))]) (λk cd=>[bH I [Value.func (.func 192) #[] #[vP D]] 203,bH D [Value.func (.func 193) #[] #[vP e.1]] 203,bH e.2 [vI ((at' d a).2)] 3,bH e.1 [vI ((at' d a).1)] 3,bH u [vI (a)] 3,bH f [q] 49,bH t [g,j] 27]) (0:Int) () h SF (aY.ix [1,2,4,5,6,7,8] Z Z) ?_;intro cX k cd h;refine aS<|cP Z<|aK<|aI ?_;refine eZ h Z (λh=>?_) λh=>?_
        ·refine cE<|aI<|aU<|aS<|aA Z<|dK h λcw h=>aB (aZ Z Z (aE.el (aE.fact 1 Z) M.1 M.2) Z Z cw) Z<|aB (c_ (cs:=[vI ((at' (at' b.2 a) k).1),vI ((at' (at' b.2 a) k).2)]) Z (aE.el (aE.fact 1 Z) M.1 M.2) bB Z Z Z Z cw) Z<|aG (aJ.alloc (cs:=Ms) Z Z) Z λd1=>aC Z<|bR 0 (vs:=[vI ((at' (at' b.2 a) k).1),vI ((at' (at' b.2 a) k).2)]) Z Z Z Z Z Z<|aK<|aS<|aA Z<|dM 0 Z<|gE (A:=Bool) (B:=Unit) (vs:=[Value.agg #[vI ((at' (at' b.2 a) k).1),vI ((at' (at' b.2 a) k).2)],vP I,vP f]) (λal=>qE b d a k (bP (fM U b d a) cX) al=some r) (λal br=>vB (al)) (λal br=>[bH I [Value.func (.func 192) #[] #[vP D]] 203,bH D [Value.func (.func 193) #[] #[vP e.1]] 203,bH e.2 [vI ((at' d a).2)] 3,bH e.1 [vI ((at' d a).1)] 3,bH u [vI (a)] 3,bH f [q] 49,bH t [g,j] 27]) (λal br=>[Sl bN g b.1,S2 aO j C b.2,Sl bN H v,Sl aO q d]) (eC (us:=[Value.agg #[vI ((at' (at' b.2 a) k).1),vI ((at' (at' b.2 a) k).2)]]) (cs:=[vP I,vP f]) (show aQ Tryz.prog 190 from Tryz.call190) Z Z Z) Tryz.func190 Z Tryz.ntmps190 Z Z ?_ ?_
         ·refine aS<|aG (aJ.box (cs:=[vI ((at' (at' b.2 a) k).1),vI ((at' (at' b.2 a) k).2)]) Z Z) Z λd2=>aC Z<|aK<|aI ?_;refine JR.start [0,0,0,4,14,30,63,127] 6 mixedOrders (by decide +kernel) ?_;refine JR.open (by exact rfl) ?_;refine dY 2 Z<|dY 7 Z<|cN Z<|dY 0 Z<|dK h λcx h=>bI Z .nil (h_ 3 Z) (aZ Z Z (aE.fact 0 Z) Z Z cx) aN.z<|bI Z .nil (h_ 3 Z) (c_ (cs:=[vI ((at' d ((at' (at' b.2 a) k).1)).1),vI ((at' d ((at' (at' b.2 a) k).1)).2)]) Z (aE.fact 0 Z) bB Z Z Z Z cx) aN.z<|bK 6 Z Z<|gE (A:=Bool) (B:=Unit) (vs:=[Value.agg #[vI ((at' d ((at' (at' b.2 a) k).1)).1),vI ((at' d ((at' (at' b.2 a) k).1)).2)],vP D]) (λW=>mS b d a k (bP (fM U b d a) cX) W=some r) (λW bs=>vB (W)) (λW bs=>[bH I [Value.func (.func 192) #[] #[vP D]] 203,bH D [Value.func (.func 193) #[] #[vP e.1]] 203,bH e.2 [vI ((at' d a).2)] 3,bH e.1 [vI ((at' d a).1)] 3,bH u [vI (a)] 3,bH f [q] 49,bH t [g,j] 27]) (λW bs=>[Sl bN g b.1,S2 aO j C b.2,Sl bN H v,Sl aO q d]) (eC (us:=[Value.agg #[vI ((at' d ((at' (at' b.2 a) k).1)).1),vI ((at' d ((at' (at' b.2 a) k).1)).2)]]) (cs:=[vP D]) (show aQ Tryz.prog 192 from Tryz.call192) Z Z Z) Tryz.func192 Z Tryz.ntmps192 Z Z ?_ ?_
          ·refine aS<|aG (aJ.box (cs:=[vI ((at' d ((at' (at' b.2 a) k).1)).1),vI ((at' d ((at' (at' b.2 a) k).1)).2)]) Z Z) Z λd3=>aC Z<|aK<|aS<|cJ 4 Z<|dM 0 Z<|eL h λc3 dG h=>aG (fQ (vs:=[Value.agg #[vI ((at' d ((at' (at' b.2 a) k).1)).1),vI ((at' d ((at' (at' b.2 a) k).1)).2)]]) (cs:=[vP e.1]) HW Z (qM U e.1 c3 dG) Z (aD.cons (aE.res 6 Z) .nil) (λ_ _=>rfl)) Z λek=>aB (iZ Z) Z<|aC Z<|aK<|aP ?_;exact dO ((!c3)) () h (.inl Z) (uO.r1 Z (RV.tmp Z)) Z (aY.ix [3,4,5,6,7,8,9] Z Z) (aD.refl _ _)
          intro W bs h;unfold mS at h;refine aC Z<|aK<|aP ?_;exact dO (W) () h (.inl Z) (uO.r1 Z (RV.tmp Z)) Z (aY.refl _) (aD.refl _ _)
         intro al br h;refine aK ?_;refine yC h Z (λ_ h=>?_) λ_ h=>?_
         ·refine aS<|aA Z<|aC Z<|aK<|aP<|bO<|aH<|aH<|bO<|aH ?_;exact dO (k) () h (.inl Z) (uO.r1 Z (RV.tmp Z)) Z (aY.ix [2,3,4,6] Z Z) (aD.refl _ _)
         refine dJ<|mP<|aR<|cO Z<|aA Z<|aK ?_;exact Ai (wI .i64 (k+(1:Int))) () h SF Z
        refine fE ?_;exact bT () (()) h SF (aY.ix [2,3,4,6] Z Z) (aD.refl _ _)
       intro bb cc h;unfold vX at h;refine aS<|aC Z<|aK<|aP ?_;exact dO (-1:Int) () h (.inl Z) (uO.r1 Z (RV.tmp Z)) Z (aY.refl _) (aD.refl _ _)
      intro V bq h;unfold mR at h;refine aB (wP Z Z) Z<|aC Z<|aK<|aP ?_;exact dO (decide ((0:Int)<=V)) () h (.inl Z) (uO.r1 Z (RV.tmp Z)) Z (aY.refl _) (aD.refl _ _)
     intro T bp h;unfold vW at h;refine aB (iZ Z) Z<|aC Z<|aK<|aP ?_;exact dO ((!T)) () h (.inl Z) (uO.r1 Z (RV.tmp Z)) Z (aY.refl _) (aD.refl _ _)
    intro ak bo h;unfold kR at h;refine fY Z (fC Z) ?_;refine JR.guard (by exact rfl) (by exact rfl) (by exact rfl) (λa6=>?_) (λa6=>?_)
    ·have h:=Ie a6 h;refine cD Z (aY.cons 1 Z .nil) .nil (cK 0 Z Z Z Z Z) (Bl Z)<|cD Z .nil .nil (dR Z Z Z Z Z) (Bl Z)<|cD Z (aY.cons 3 Z .nil) .nil (cK 0 Z Z Z Z Z) (Bl Z)<|cD Z (aY.cons 2 Z .nil) .nil (cK 0 Z Z Z Z Z) (Bl Z)<|dK h λcv h=>cD Z .nil (h_ 0 Z) (aZ Z Z (aE.fact 0 Z) Z Z cv) (Bl Z)<|cD Z .nil (h_ 0 Z) (bU Z (aE.fact 0 Z) Z Z Z cS cv) (Bl Z)<|bK 10 Z Z<|aV Z (De Z Z) Z<|dU Z<|aA Z ?_;refine Cd h Z (λ_ h=>?_) λ_ h=>?_
     ·refine aV Z (cK 0 Z Z Z Z Z) Z<|aV Z (De Z Z) Z<|dU Z<|aC Z<|aK ?_;exact bT (decide (((at' d a).2)=(0:Int))) () h SF .nil (aD.refl _ _)
     refine aL Z<|aL Z<|e_ Z<|aC Z<|aK ?_;exact bT (false) () h SF .nil (aD.refl _ _)
    have h:=Je a6 h;refine a_ Z Z Z Z<|a_ Z Z Z Z<|a_ Z Z Z Z<|a_ Z Z Z Z<|a_ Z Z Z Z<|a_ Z Z Z Z<|bK 10 Z Z<|aL Z<|e_ Z<|aA Z<|aL Z<|aL Z<|e_ Z<|aC Z<|aK ?_;exact bT (false) () h SF .nil (aD.refl _ _)
   intro aw cb h;unfold kQ at h;refine aP<|aH<|bO<|aH ?_;cases h;exact kM Z
  refine cE<|aI<|d_ (λax=>kS  ax=some r) (λax ce=>[(10,vB (ax))]) (λax ce=>[]) ?_ ?_
  ·refine aR<|aA Z<|aA Z<|gE (A:=Bool) (B:=Unit) (vs:=[Value.func (.func 193) #[] #[vP e.1],vP b9]) (λam=>mT U b d a am=some r) (λam bt=>vB (am)) (λam bt=>[bH b9 [Value.func (.func 189) #[] #[vP t,vP u,vP f]] 204,bH e.2 [vI ((at' d a).2)] 3,bH u [vI (a)] 3,bH f [q] 49,bH t [g,j] 27]) (λam bt=>[Sl bN g b.1,S2 aO j C b.2,Sl bN H v,Sl aO q d]) (eC (us:=[Value.func (.func 193) #[] #[vP e.1]]) (cs:=[vP b9]) (show aQ Tryz.prog 191 from Tryz.call191) Z Z Z) Tryz.func191 Z Tryz.ntmps191 Z Z ?_ ?_
   ·refine aS<|aG (aJ.box (cs:=[Value.func (.func 193) #[] #[vP e.1]]) Z Z) Z λE=>aC Z<|aK<|aS<|cJ 1 Z<|aB (dZ (cs:=[.tmp 2]) (vs:=[vP E]) Z) Z<|gE (A:=Bool) (B:=Unit) (vs:=[Value.func (.func 192) #[] #[vP E],vP t,vP u,vP f]) (λaa=>v_ U b d a aa=some r) (λaa bz=>vB (aa)) (λaa bz=>[bH b9 [Value.func (.func 189) #[] #[vP t,vP u,vP f]] 204,bH e.2 [vI ((at' d a).2)] 3,bH u [vI (a)] 3,bH f [q] 49,bH t [g,j] 27]) (λaa bz=>[Sl bN g b.1,S2 aO j C b.2,Sl bN H v,Sl aO q d]) (eC (us:=[Value.func (.func 192) #[] #[vP E]]) (cs:=[vP t,vP u,vP f]) (show aQ Tryz.prog 189 from Tryz.call189) Z Z Z) Tryz.func189 Z Tryz.ntmps189 Z Z ?_ ?_
    ·refine aS<|aG (aJ.box (cs:=[Value.func (.func 192) #[] #[vP E]]) Z Z) Z λJ=>aC Z<|aK<|aS<|dM 7 Z<|cJ 5 Z<|aB (dZ (cs:=[.tmp 4,.tmp 3]) (vs:=[vP J,vP f]) Z) Z<|gE (A:=Int) (B:=Unit) (vs:=[Value.agg #[g,j],vI (a),Value.func (.func 190) #[] #[vP J,vP f]]) (λab=>mV U b d a ab=some r) (λab bC=>vI (ab)) (λab bC=>[bH b9 [Value.func (.func 189) #[] #[vP t,vP u,vP f]] 204,bH e.2 [vI ((at' d a).2)] 3,bH u [vI (a)] 3,bH f [q] 49,bH t [g,j] 27]) (λab bC=>[Sl bN g b.1,S2 aO j C b.2,Sl bN H v,Sl aO q d]) (fU.fn (show aQ Tryz.prog 40 from Tryz.call40) Z) Tryz.func40 Z Tryz.ntmps40 Z Z ?_ ?_
     ·refine aS<|aG (aJ.box (cs:=[g,j]) Z Z) Z λd7=>aC Z<|aK<|aI<|d_ (λbd=>wA U b d a bd=some r) (λbd ch=>[]) (λbd ch=>[bH b9 [Value.func (.func 189) #[] #[vP t,vP u,vP f]] 204,bH e.2 [vI ((at' d a).2)] 3,bH u [vI (a)] 3,bH f [q] 49,bH t [g,j] 27]) ?_ ?_
      ·refine aS<|bX Z<|cJ 0 Z<|aA Z<|dK h λO h=>aB (cQ Z Z (aE.fact 1 Z) Z Z O) Z<|aB (cL Z (aE.fact 1 Z) Z Z O) Z<|aB (fG Z (aE.el (aE.fact 1 Z) O.1 O.2) Z) Z<|aA Z<|aK<|aU<|eH (fN U b d a) (λm ci=>[(2,Value.func (.func 190) #[] #[vP J,vP f]),(13,(at' C a).1),(14,vI (List.length (at' b.2 a):Int)),(15,vI (m))]) (λm ci=>[bH J [Value.func (.func 192) #[] #[vP E]] 203,bH E [Value.func (.func 193) #[] #[vP e.1]] 203,bH b9 [Value.func (.func 189) #[] #[vP t,vP u,vP f]] 204,bH e.2 [vI ((at' d a).2)] 3,bH e.1 [vI ((at' d a).1)] 3,bH u [vI (a)] 3,bH f [q] 49,bH t [g,j] 27]) (0:Int) () h SF (aY.ix [1,2,3,4,5,6,7,8] Z Z) ?_;intro cY m ci h;refine aS<|cP Z<|aK<|aI ?_;refine eZ h Z (λh=>?_) λh=>?_
       ·refine cE<|aI<|aU<|aS<|aA Z<|dK h λcA h=>aB (aZ Z Z (aE.el (aE.fact 1 Z) O.1 O.2) Z Z cA) Z<|aB (c_ (cs:=[vI ((at' (at' b.2 a) m).1),vI ((at' (at' b.2 a) m).2)]) Z (aE.el (aE.fact 1 Z) O.1 O.2) bB Z Z Z Z cA) Z<|aG (aJ.alloc (cs:=Ms) Z Z) Z λd8=>aC Z<|bR 0 (vs:=[vI ((at' (at' b.2 a) m).1),vI ((at' (at' b.2 a) m).2)]) Z Z Z Z Z Z<|aK<|aS<|aA Z<|dM 0 Z<|gE (A:=Bool) (B:=Unit) (vs:=[Value.agg #[vI ((at' (at' b.2 a) m).1),vI ((at' (at' b.2 a) m).2)],vP J,vP f]) (λao=>qG U b d a m (bP (fN U b d a) cY) ao=some r) (λao bD=>vB (ao)) (λao bD=>[bH J [Value.func (.func 192) #[] #[vP E]] 203,bH E [Value.func (.func 193) #[] #[vP e.1]] 203,bH b9 [Value.func (.func 189) #[] #[vP t,vP u,vP f]] 204,bH e.2 [vI ((at' d a).2)] 3,bH e.1 [vI ((at' d a).1)] 3,bH u [vI (a)] 3,bH f [q] 49,bH t [g,j] 27]) (λao bD=>[Sl bN g b.1,S2 aO j C b.2,Sl bN H v,Sl aO q d]) (eC (us:=[Value.agg #[vI ((at' (at' b.2 a) m).1),vI ((at' (at' b.2 a) m).2)]]) (cs:=[vP J,vP f]) (show aQ Tryz.prog 190 from Tryz.call190) Z Z Z) Tryz.func190 Z Tryz.ntmps190 Z Z ?_ ?_
        ·refine aS<|aG (aJ.box (cs:=[vI ((at' (at' b.2 a) m).1),vI ((at' (at' b.2 a) m).2)]) Z Z) Z λd9=>aC Z<|aK<|aI ?_;refine JR.start [0,0,0,4,14,30,63,127] 6 mixedOrders (by decide +kernel) ?_;refine JR.open (by exact rfl) ?_;refine dY 2 Z<|dY 8 Z<|cN Z<|dY 0 Z<|dK h λcF h=>bI Z .nil (h_ 3 Z) (aZ Z Z (aE.fact 0 Z) Z Z cF) aN.z<|bI Z .nil (h_ 3 Z) (c_ (cs:=[vI ((at' d ((at' (at' b.2 a) m).1)).1),vI ((at' d ((at' (at' b.2 a) m).1)).2)]) Z (aE.fact 0 Z) bB Z Z Z Z cF) aN.z<|bK 6 Z Z<|gE (A:=Bool) (B:=Unit) (vs:=[Value.agg #[vI ((at' d ((at' (at' b.2 a) m).1)).1),vI ((at' d ((at' (at' b.2 a) m).1)).2)],vP E]) (λac=>mW U b d a m (bP (fN U b d a) cY) ac=some r) (λac bF=>vB (ac)) (λac bF=>[bH J [Value.func (.func 192) #[] #[vP E]] 203,bH E [Value.func (.func 193) #[] #[vP e.1]] 203,bH b9 [Value.func (.func 189) #[] #[vP t,vP u,vP f]] 204,bH e.2 [vI ((at' d a).2)] 3,bH e.1 [vI ((at' d a).1)] 3,bH u [vI (a)] 3,bH f [q] 49,bH t [g,j] 27]) (λac bF=>[Sl bN g b.1,S2 aO j C b.2,Sl bN H v,Sl aO q d]) (eC (us:=[Value.agg #[vI ((at' d ((at' (at' b.2 a) m).1)).1),vI ((at' d ((at' (at' b.2 a) m).1)).2)]]) (cs:=[vP E]) (show aQ Tryz.prog 192 from Tryz.call192) Z Z Z) Tryz.func192 Z Tryz.ntmps192 Z Z ?_ ?_
         ·refine aS<|aG (aJ.box (cs:=[vI ((at' d ((at' (at' b.2 a) m).1)).1),vI ((at' d ((at' (at' b.2 a) m).1)).2)]) Z Z) Z λea=>aC Z<|aK<|aS<|cJ 4 Z<|dM 0 Z<|eL h λc5 dI h=>aG (fQ (vs:=[Value.agg #[vI ((at' d ((at' (at' b.2 a) m).1)).1),vI ((at' d ((at' (at' b.2 a) m).1)).2)]]) (cs:=[vP e.1]) HW Z (qM U e.1 c5 dI) Z (aD.cons (aE.res 7 Z) .nil) (λ_ _=>rfl)) Z λen=>aB (iZ Z) Z<|aC Z<|aK<|aP ?_;exact dO ((!c5)) () h (.inl Z) (uO.r1 Z (RV.tmp Z)) Z (aY.ix [3,4,5,6,7,8,9,10] Z Z) (aD.refl _ _)
         intro ac bF h;unfold mW at h;refine aC Z<|aK<|aP ?_;exact dO (ac) () h (.inl Z) (uO.r1 Z (RV.tmp Z)) Z (aY.refl _) (aD.refl _ _)
        intro ao bD h;refine aK ?_;refine yC h Z (λ_ h=>?_) λ_ h=>?_
        ·refine aS<|aA Z<|aC Z<|aK<|aP<|bO<|aH<|aH<|bO<|aH ?_;exact dO (m) () h (.inl Z) (uO.r1 Z (RV.tmp Z)) Z (aY.ix [2,3,5,6,7] Z Z) (aD.refl _ _)
        refine dJ<|mP<|aR<|cO Z<|aA Z<|aK ?_;exact Ai (wI .i64 (m+(1:Int))) () h SF Z
       refine fE ?_;exact bT () (()) h SF (aY.ix [2,3,5,6,7] Z Z) (aD.refl _ _)
      intro bd ch h;unfold wA at h;refine aS<|aC Z<|aK<|aP ?_;exact dO (-1:Int) () h (.inl Z) (uO.r1 Z (RV.tmp Z)) Z (aY.refl _) (aD.refl _ _)
     intro ab bC h;unfold mV at h;refine aB (wP Z Z) Z<|aC Z<|aK<|aP ?_;exact dO (decide ((0:Int)<=ab)) () h (.inl Z) (uO.r1 Z (RV.tmp Z)) Z (aY.refl _) (aD.refl _ _)
    intro aa bz h;unfold v_ at h;refine aB (iZ Z) Z<|aC Z<|aK<|aP ?_;exact dO ((!aa)) () h (.inl Z) (uO.r1 Z (RV.tmp Z)) Z (aY.refl _) (aD.refl _ _)
   intro am bt h;unfold mT at h;refine aA Z ?_;refine Cf (by exact rfl) (by exact rfl) (λa8=>?_) (λa8=>?_)
   ·have h:=Ie a8 h;refine aV Z (cK 1 Z Z Z Z Z) Z<|aV Z (wP Z Z) Z<|dU Z<|aA Z ?_;refine Cd h Z (λ_ h=>?_) λ_ h=>?_
    ·refine aV Z (cK 0 Z Z Z Z Z) Z<|eS Z<|WS (A:=Bool) (B:=Unit) (vs:=[Value.func (.func 194) #[] #[vP e.2],vP t,vP u,vP f]) (λX=>vY  X=some r) (λX bu=>vB (X)) (λX bu=>[]) (λX bu=>[Sl bN g b.1,S2 aO j C b.2,Sl bN H v,Sl aO q d]) Z (eC (us:=[Value.func (.func 194) #[] #[vP e.2]]) (cs:=[vP t,vP u,vP f]) (show aQ Tryz.prog 189 from Tryz.call189) Z Z Z) Tryz.func189 Z Tryz.ntmps189 Z Z ?_ ?_
     ·refine aS<|aG (aJ.box (cs:=[Value.func (.func 194) #[] #[vP e.2]]) Z Z) Z λaj=>aC Z<|aK<|aS<|dM 5 Z<|cJ 3 Z<|aB (dZ (cs:=[.tmp 4,.tmp 3]) (vs:=[vP aj,vP f]) Z) Z<|gE (A:=Int) (B:=Unit) (vs:=[Value.agg #[g,j],vI (a),Value.func (.func 190) #[] #[vP aj,vP f]]) (λY=>mU  Y=some r) (λY bw=>vI (Y)) (λY bw=>[]) (λY bw=>[Sl bN g b.1,S2 aO j C b.2,Sl bN H v,Sl aO q d]) (fU.fn (show aQ Tryz.prog 40 from Tryz.call40) Z) Tryz.func40 Z Tryz.ntmps40 Z Z ?_ ?_
      ·refine aS<|aG (aJ.box (cs:=[g,j]) Z Z) Z λd4=>aC Z<|aK<|aI<|d_ (λbc=>vZ  bc=some r) (λbc cf=>[]) (λbc cf=>[]) ?_ ?_
       ·refine aS<|bX Z<|cJ 0 Z<|aA Z<|dK h λN h=>aB (cQ Z Z (aE.fact 1 Z) Z Z N) Z<|aB (cL Z (aE.fact 1 Z) Z Z N) Z<|aB (fG Z (aE.el (aE.fact 1 Z) N.1 N.2) Z) Z<|aA Z<|aK<|aU<|eH (iD U b d a) (λs cg=>[(2,Value.func (.func 190) #[] #[vP aj,vP f]),(13,(at' C a).1),(14,vI (List.length (at' b.2 a):Int)),(15,vI (s))]) (λs cg=>[bH aj [Value.func (.func 194) #[] #[vP e.2]] 203,bH e.2 [vI ((at' d a).2)] 3,bH f [q] 49]) (0:Int) () h SF (aY.ix [1,3,5] Z Z) ?_;intro dy s cg h;refine aS<|cP Z<|aK<|aI ?_;refine eZ h Z (λh=>?_) λh=>?_
        ·refine cE<|aI<|aU<|aS<|aA Z<|dK h λcy h=>aB (aZ Z Z (aE.el (aE.fact 1 Z) N.1 N.2) Z Z cy) Z<|aB (c_ (cs:=[vI ((at' (at' b.2 a) s).1),vI ((at' (at' b.2 a) s).2)]) Z (aE.el (aE.fact 1 Z) N.1 N.2) bB Z Z Z Z cy) Z<|aG (aJ.alloc (cs:=Ms) Z Z) Z λd5=>aC Z<|bR 0 (vs:=[vI ((at' (at' b.2 a) s).1),vI ((at' (at' b.2 a) s).2)]) Z Z Z Z Z Z<|aK<|aS<|aA Z<|dM 0 Z<|gE (A:=Bool) (B:=Unit) (vs:=[Value.agg #[vI ((at' (at' b.2 a) s).1),vI ((at' (at' b.2 a) s).2)],vP aj,vP f]) (λan=>qF s (bP (iD U b d a) dy) an=some r) (λan bx=>vB (an)) (λan bx=>[bH aj [Value.func (.func 194) #[] #[vP e.2]] 203,bH e.2 [vI ((at' d a).2)] 3,bH f [q] 49]) (λan bx=>[Sl bN g b.1,S2 aO j C b.2,Sl bN H v,Sl aO q d]) (eC (us:=[Value.agg #[vI ((at' (at' b.2 a) s).1),vI ((at' (at' b.2 a) s).2)]]) (cs:=[vP aj,vP f]) (show aQ Tryz.prog 190 from Tryz.call190) Z Z Z) Tryz.func190 Z Tryz.ntmps190 Z Z ?_ ?_
         ·refine aS<|aG (aJ.box (cs:=[vI ((at' (at' b.2 a) s).1),vI ((at' (at' b.2 a) s).2)]) Z Z) Z λd6=>aC Z<|aK<|aI ?_;refine JR.start [0,0,0,4,14,30,63,127] 6 mixedOrders (by decide +kernel) ?_;refine JR.open (by exact rfl) ?_;refine dY 2 Z<|dY 4 Z<|cN Z<|dY 0 Z<|dK h λcz h=>bI Z .nil (h_ 3 Z) (aZ Z Z (aE.fact 0 Z) Z Z cz) aN.z<|bI Z .nil (h_ 3 Z) (c_ (cs:=[vI ((at' d ((at' (at' b.2 a) s).1)).1),vI ((at' d ((at' (at' b.2 a) s).1)).2)]) Z (aE.fact 0 Z) bB Z Z Z Z cz) aN.z<|bK 6 Z Z<|eL h λc4 dH h=>aG (fQ (vs:=[Value.agg #[vI ((at' d ((at' (at' b.2 a) s).1)).1),vI ((at' d ((at' (at' b.2 a) s).1)).2)]]) (cs:=[vP e.2]) Qv Z (AV U e.2 c4 dH) Z (aD.cons (aE.res 3 Z) .nil) (λ_ _=>rfl)) Z λem=>aC Z<|aK<|aP ?_;exact dO (c4) () h (.inl Z) (uO.r1 Z (RV.tmp Z)) Z (aY.ix [2,3,4] Z Z) (aD.refl _ _)
         intro an bx h;refine aK ?_;refine yC h Z (λ_ h=>?_) λ_ h=>?_
         ·refine aS<|aA Z<|aC Z<|aK<|aP<|bO<|aH<|aH<|bO<|aH ?_;exact dO (s) () h (.inl Z) (uO.r1 Z (RV.tmp Z)) Z .nil (aD.refl _ _)
         refine dJ<|mP<|aR<|cO Z<|aA Z<|aK ?_;exact Ai (wI .i64 (s+(1:Int))) () h SF Z
        refine fE ?_;exact bT () (()) h SF .nil (aD.refl _ _)
       intro bc cf h;unfold vZ at h;refine aS<|aC Z<|aK<|aP ?_;exact dO (-1:Int) () h (.inl Z) (uO.r1 Z (RV.tmp Z)) Z (aY.refl _) (aD.refl _ _)
      intro Y bw h;unfold mU at h;refine aB (wP Z Z) Z<|aC Z<|aK<|aP ?_;exact dO (decide ((0:Int)<=Y)) () h (.inl Z) (uO.r1 Z (RV.tmp Z)) Z (aY.refl _) (aD.refl _ _)
     intro X bu h;unfold vY at h;refine dU Z<|aC Z<|aK ?_;exact iI (X) () h SF Z
    refine aL Z<|aL Z<|aL Z<|e_ Z<|aC Z<|aK ?_;exact bT (false) () h SF .nil (aD.refl _ _)
   have h:=Je a8 h;refine aL Z<|aL Z<|e_ Z<|aA Z<|aL Z<|aL Z<|aL Z<|e_ Z<|aC Z<|aK ?_;exact bT (false) () h SF .nil (aD.refl _ _)
  intro ax ce h;unfold kS at h;refine aP<|bO<|aH ?_;cases h;exact kM Z
 refine dJ<|mP<|aI<|aI<|d_ (λay=>wB U p0 b v d a ay=some r) (λay cj=>[(0,vI (p0)),(2,H),(6,vP t),(8,vP f),(9,vP u),(11,vP e.1),(14,Value.func (.func 191) #[] #[vP b9]),(122,vB (ay))]) (λay cj=>[bH b9 [Value.func (.func 189) #[] #[vP t,vP u,vP f]] 204,bH e.1 [vI ((at' d a).1)] 3,bH u [vI (a)] 3,bH f [q] 49,bH t [g,j] 27]) ?_ ?_
 ·refine aR<|cJ 2 Z<|oT Z<|aA Z ?_;refine Cd h Z (λ_ h=>?_) λ_ h=>?_
  ·refine aV Z (cK 2 Z Z Z Z Z) Z<|aV Z (Bh Z Z) Z<|dU Z<|aK ?_;exact bT (decide (((at' d a).1)≠(1:Int))) () h SF (aY.ix [0,2,3,4,5] Z Z) (aD.refl _ _)
  refine aL Z<|aL Z<|e_ Z<|aK ?_;exact bT (false) () h SF (aY.ix [0,2,3,4,5] Z Z) (aD.refl _ _)
 intro ay cj h;refine yC h Z (λ_ h=>?_) λ_ h=>?_
 ·refine aS<|aC Z<|aK<|aP<|aH ?_;cases h;exact sV Z
 refine cE<|aI<|aS<|aA Z<|cC Z<|aK ?_;refine eZ h Z (λh=>?_) λh=>?_
 ·refine aS<|aA Z<|aB (dZ (cs:=[.tmp 11]) (vs:=[vP e.1]) Z) Z<|gE (A:=Bool) (B:=Unit) (vs:=[Value.func (.func 195) #[] #[vP e.1],vP b9]) (λap=>wC  ap=some r) (λap bG=>vB (ap)) (λap bG=>[]) (λap bG=>[Sl bN g b.1,S2 aO j C b.2,Sl bN H v,Sl aO q d]) (eC (us:=[Value.func (.func 195) #[] #[vP e.1]]) (cs:=[vP b9]) (show aQ Tryz.prog 191 from Tryz.call191) Z Z Z) Tryz.func191 Z Tryz.ntmps191 Z Z ?_ ?_
  ·refine aS<|aG (aJ.box (cs:=[Value.func (.func 195) #[] #[vP e.1]]) Z Z) Z λF=>aC Z<|aK<|aS<|cJ 1 Z<|aB (dZ (cs:=[.tmp 2]) (vs:=[vP F]) Z) Z<|gE (A:=Bool) (B:=Unit) (vs:=[Value.func (.func 192) #[] #[vP F],vP t,vP u,vP f]) (λad=>wD  ad=some r) (λad bJ=>vB (ad)) (λad bJ=>[]) (λad bJ=>[Sl bN g b.1,S2 aO j C b.2,Sl bN H v,Sl aO q d]) (eC (us:=[Value.func (.func 192) #[] #[vP F]]) (cs:=[vP t,vP u,vP f]) (show aQ Tryz.prog 189 from Tryz.call189) Z Z Z) Tryz.func189 Z Tryz.ntmps189 Z Z ?_ ?_
   ·refine aS<|aG (aJ.box (cs:=[Value.func (.func 192) #[] #[vP F]]) Z Z) Z λK=>aC Z<|aK<|aS<|dM 6 Z<|cJ 4 Z<|aB (dZ (cs:=[.tmp 4,.tmp 3]) (vs:=[vP K,vP f]) Z) Z<|gE (A:=Int) (B:=Unit) (vs:=[Value.agg #[g,j],vI (a),Value.func (.func 190) #[] #[vP K,vP f]]) (λae=>qH  ae=some r) (λae bL=>vI (ae)) (λae bL=>[]) (λae bL=>[Sl bN g b.1,S2 aO j C b.2,Sl bN H v,Sl aO q d]) (fU.fn (show aQ Tryz.prog 40 from Tryz.call40) Z) Tryz.func40 Z Tryz.ntmps40 Z Z ?_ ?_
    ·refine aS<|aG (aJ.box (cs:=[g,j]) Z Z) Z λeb=>aC Z<|aK<|aI<|d_ (λbe=>wE  be=some r) (λbe ck=>[]) (λbe ck=>[]) ?_ ?_
     ·refine aS<|bX Z<|cJ 0 Z<|aA Z<|dK h λP h=>aB (cQ Z Z (aE.fact 1 Z) Z Z P) Z<|aB (cL Z (aE.fact 1 Z) Z Z P) Z<|aB (fG Z (aE.el (aE.fact 1 Z) P.1 P.2) Z) Z<|aA Z<|aK<|aU<|eH (rV U b d a) (λn cl=>[(2,Value.func (.func 190) #[] #[vP K,vP f]),(13,(at' C a).1),(14,vI (List.length (at' b.2 a):Int)),(15,vI (n))]) (λn cl=>[bH K [Value.func (.func 192) #[] #[vP F]] 203,bH F [Value.func (.func 195) #[] #[vP e.1]] 203,bH e.1 [vI ((at' d a).1)] 3,bH f [q] 49]) (0:Int) () h SF (aY.ix [1,2,4,6] Z Z) ?_;intro c0 n cl h;refine aS<|cP Z<|aK<|aI ?_;refine eZ h Z (λh=>?_) λh=>?_
      ·refine cE<|aI<|aU<|aS<|aA Z<|dK h λcG h=>aB (aZ Z Z (aE.el (aE.fact 1 Z) P.1 P.2) Z Z cG) Z<|aB (c_ (cs:=[vI ((at' (at' b.2 a) n).1),vI ((at' (at' b.2 a) n).2)]) Z (aE.el (aE.fact 1 Z) P.1 P.2) bB Z Z Z Z cG) Z<|aG (aJ.alloc (cs:=Ms) Z Z) Z λec=>aC Z<|bR 0 (vs:=[vI ((at' (at' b.2 a) n).1),vI ((at' (at' b.2 a) n).2)]) Z Z Z Z Z Z<|aK<|aS<|aA Z<|dM 0 Z<|gE (A:=Bool) (B:=Unit) (vs:=[Value.agg #[vI ((at' (at' b.2 a) n).1),vI ((at' (at' b.2 a) n).2)],vP K,vP f]) (λaq=>AG n (bP (rV U b d a) c0) aq=some r) (λaq bM=>vB (aq)) (λaq bM=>[bH K [Value.func (.func 192) #[] #[vP F]] 203,bH F [Value.func (.func 195) #[] #[vP e.1]] 203,bH e.1 [vI ((at' d a).1)] 3,bH f [q] 49]) (λaq bM=>[Sl bN g b.1,S2 aO j C b.2,Sl bN H v,Sl aO q d]) (eC (us:=[Value.agg #[vI ((at' (at' b.2 a) n).1),vI ((at' (at' b.2 a) n).2)]]) (cs:=[vP K,vP f]) (show aQ Tryz.prog 190 from Tryz.call190) Z Z Z) Tryz.func190 Z Tryz.ntmps190 Z Z ?_ ?_
       ·refine aS<|aG (aJ.box (cs:=[vI ((at' (at' b.2 a) n).1),vI ((at' (at' b.2 a) n).2)]) Z Z) Z λed=>aC Z<|aK<|aI ?_;refine JR.start [0,0,0,4,14,30,63,127] 6 mixedOrders (by decide +kernel) ?_;refine JR.open (by exact rfl) ?_;refine dY 2 Z<|dY 5 Z<|cN Z<|dY 0 Z<|dK h λcH h=>bI Z .nil (h_ 3 Z) (aZ Z Z (aE.fact 0 Z) Z Z cH) aN.z<|bI Z .nil (h_ 3 Z) (c_ (cs:=[vI ((at' d ((at' (at' b.2 a) n).1)).1),vI ((at' d ((at' (at' b.2 a) n).1)).2)]) Z (aE.fact 0 Z) bB Z Z Z Z cH) aN.z<|bK 6 Z Z<|gE (A:=Bool) (B:=Unit) (vs:=[Value.agg #[vI ((at' d ((at' (at' b.2 a) n).1)).1),vI ((at' d ((at' (at' b.2 a) n).1)).2)],vP F]) (λaf=>wF n (bP (rV U b d a) c0) af=some r) (λaf bQ=>vB (af)) (λaf bQ=>[bH K [Value.func (.func 192) #[] #[vP F]] 203,bH F [Value.func (.func 195) #[] #[vP e.1]] 203,bH e.1 [vI ((at' d a).1)] 3,bH f [q] 49]) (λaf bQ=>[Sl bN g b.1,S2 aO j C b.2,Sl bN H v,Sl aO q d]) (eC (us:=[Value.agg #[vI ((at' d ((at' (at' b.2 a) n).1)).1),vI ((at' d ((at' (at' b.2 a) n).1)).2)]]) (cs:=[vP F]) (show aQ Tryz.prog 192 from Tryz.call192) Z Z Z) Tryz.func192 Z Tryz.ntmps192 Z Z ?_ ?_
        ·refine aS<|aG (aJ.box (cs:=[vI ((at' d ((at' (at' b.2 a) n).1)).1),vI ((at' d ((at' (at' b.2 a) n).1)).2)]) Z Z) Z λee=>aC Z<|aK<|aS<|cJ 4 Z<|dM 0 Z<|eL h λc6 dL h=>aG (fQ (vs:=[Value.agg #[vI ((at' d ((at' (at' b.2 a) n).1)).1),vI ((at' d ((at' (at' b.2 a) n).1)).2)]]) (cs:=[vP e.1]) XD Z (Ff U e.1 c6 dL) Z (aD.cons (aE.res 5 Z) .nil) (λ_ _=>rfl)) Z λeo=>aB (iZ Z) Z<|aC Z<|aK<|aP ?_;exact dO ((!c6)) () h (.inl Z) (uO.r1 Z (RV.tmp Z)) Z (aY.ix [3,4,5,6] Z Z) (aD.refl _ _)
        intro af bQ h;unfold wF at h;refine aC Z<|aK<|aP ?_;exact dO (af) () h (.inl Z) (uO.r1 Z (RV.tmp Z)) Z (aY.refl _) (aD.refl _ _)
       intro aq bM h;refine aK ?_;refine yC h Z (λ_ h=>?_) λ_ h=>?_
       ·refine aS<|aA Z<|aC Z<|aK<|aP<|bO<|aH<|aH<|bO<|aH ?_;exact dO (n) () h (.inl Z) (uO.r1 Z (RV.tmp Z)) Z .nil (aD.refl _ _)
       refine dJ<|mP<|aR<|cO Z<|aA Z<|aK ?_;exact Ai (wI .i64 (n+(1:Int))) () h SF Z
      refine fE ?_;exact bT () (()) h SF .nil (aD.refl _ _)
     intro be ck h;unfold wE at h;refine aS<|aC Z<|aK<|aP ?_;exact dO (-1:Int) () h (.inl Z) (uO.r1 Z (RV.tmp Z)) Z (aY.refl _) (aD.refl _ _)
    intro ae bL h;unfold qH at h;refine aB (wP Z Z) Z<|aC Z<|aK<|aP ?_;exact dO (decide ((0:Int)<=ae)) () h (.inl Z) (uO.r1 Z (RV.tmp Z)) Z (aY.refl _) (aD.refl _ _)
   intro ad bJ h;unfold wD at h;refine aB (iZ Z) Z<|aC Z<|aK<|aP ?_;exact dO ((!ad)) () h (.inl Z) (uO.r1 Z (RV.tmp Z)) Z (aY.refl _) (aD.refl _ _)
  intro ap bG h;unfold wC at h;refine aC Z<|aK<|aP<|aH ?_;cases h;exact kM Z
 refine cE<|aI<|aS<|aA Z<|aB (dZ (cs:=[.tmp 11]) (vs:=[vP e.1]) Z) Z<|gE (A:=Bool) (B:=Unit) (vs:=[Value.func (.func 196) #[] #[vP e.1],vP b9]) (λar=>AH U b v d a ar=some r) (λar bS=>vB (ar)) (λar bS=>[bH e.1 [vI ((at' d a).1)] 3,bH u [vI (a)] 3,bH f [q] 49,bH t [g,j] 27]) (λar bS=>[Sl bN g b.1,S2 aO j C b.2,Sl bN H v,Sl aO q d]) (eC (us:=[Value.func (.func 196) #[] #[vP e.1]]) (cs:=[vP b9]) (show aQ Tryz.prog 191 from Tryz.call191) Z Z Z) Tryz.func191 Z Tryz.ntmps191 Z Z ?_ ?_
 ·refine aS<|aG (aJ.box (cs:=[Value.func (.func 196) #[] #[vP e.1]]) Z Z) Z λG=>aC Z<|aK<|aS<|cJ 1 Z<|aB (dZ (cs:=[.tmp 2]) (vs:=[vP G]) Z) Z<|gE (A:=Bool) (B:=Unit) (vs:=[Value.func (.func 192) #[] #[vP G],vP t,vP u,vP f]) (λag=>wG U b v d a ag=some r) (λag bV=>vB (ag)) (λag bV=>[bH e.1 [vI ((at' d a).1)] 3,bH u [vI (a)] 3,bH f [q] 49,bH t [g,j] 27]) (λag bV=>[Sl bN g b.1,S2 aO j C b.2,Sl bN H v,Sl aO q d]) (eC (us:=[Value.func (.func 192) #[] #[vP G]]) (cs:=[vP t,vP u,vP f]) (show aQ Tryz.prog 189 from Tryz.call189) Z Z Z) Tryz.func189 Z Tryz.ntmps189 Z Z ?_ ?_
  ·refine aS<|aG (aJ.box (cs:=[Value.func (.func 192) #[] #[vP G]]) Z Z) Z λL=>aC Z<|aK<|aS<|dM 6 Z<|cJ 4 Z<|aB (dZ (cs:=[.tmp 4,.tmp 3]) (vs:=[vP L,vP f]) Z) Z<|gE (A:=Int) (B:=Unit) (vs:=[Value.agg #[g,j],vI (a),Value.func (.func 190) #[] #[vP L,vP f]]) (λah=>qI U b v d a ah=some r) (λah bW=>vI (ah)) (λah bW=>[bH e.1 [vI ((at' d a).1)] 3,bH u [vI (a)] 3,bH f [q] 49,bH t [g,j] 27]) (λah bW=>[Sl bN g b.1,S2 aO j C b.2,Sl bN H v,Sl aO q d]) (fU.fn (show aQ Tryz.prog 40 from Tryz.call40) Z) Tryz.func40 Z Tryz.ntmps40 Z Z ?_ ?_
   ·refine aS<|aG (aJ.box (cs:=[g,j]) Z Z) Z λef=>aC Z<|aK<|aI<|d_ (λbf=>wH U b v d a bf=some r) (λbf cn=>[]) (λbf cn=>[bH e.1 [vI ((at' d a).1)] 3,bH u [vI (a)] 3,bH f [q] 49,bH t [g,j] 27]) ?_ ?_
    ·refine aS<|bX Z<|cJ 0 Z<|aA Z<|dK h λQ h=>aB (cQ Z Z (aE.fact 1 Z) Z Z Q) Z<|aB (cL Z (aE.fact 1 Z) Z Z Q) Z<|aB (fG Z (aE.el (aE.fact 1 Z) Q.1 Q.2) Z) Z<|aA Z<|aK<|aU<|eH (rW U b v d a) (λp co=>[(2,Value.func (.func 190) #[] #[vP L,vP f]),(13,(at' C a).1),(14,vI (List.length (at' b.2 a):Int)),(15,vI (p))]) (λp co=>[bH L [Value.func (.func 192) #[] #[vP G]] 203,bH G [Value.func (.func 196) #[] #[vP e.1]] 203,bH e.1 [vI ((at' d a).1)] 3,bH u [vI (a)] 3,bH f [q] 49,bH t [g,j] 27]) (0:Int) () h SF (aY.ix [1,2,4,5,6,7] Z Z) ?_;intro c1 p co h;refine aS<|cP Z<|aK<|aI ?_;refine eZ h Z (λh=>?_) λh=>?_
     ·refine cE<|aI<|aU<|aS<|aA Z<|dK h λcV h=>aB (aZ Z Z (aE.el (aE.fact 1 Z) Q.1 Q.2) Z Z cV) Z<|aB (c_ (cs:=[vI ((at' (at' b.2 a) p).1),vI ((at' (at' b.2 a) p).2)]) Z (aE.el (aE.fact 1 Z) Q.1 Q.2) bB Z Z Z Z cV) Z<|aG (aJ.alloc (cs:=Ms) Z Z) Z λeg=>aC Z<|bR 0 (vs:=[vI ((at' (at' b.2 a) p).1),vI ((at' (at' b.2 a) p).2)]) Z Z Z Z Z Z<|aK<|aS<|aA Z<|dM 0 Z<|gE (A:=Bool) (B:=Unit) (vs:=[Value.agg #[vI ((at' (at' b.2 a) p).1),vI ((at' (at' b.2 a) p).2)],vP L,vP f]) (λau=>AI U b v d a p (bP (rW U b v d a) c1) au=some r) (λau bY=>vB (au)) (λau bY=>[bH L [Value.func (.func 192) #[] #[vP G]] 203,bH G [Value.func (.func 196) #[] #[vP e.1]] 203,bH e.1 [vI ((at' d a).1)] 3,bH u [vI (a)] 3,bH f [q] 49,bH t [g,j] 27]) (λau bY=>[Sl bN g b.1,S2 aO j C b.2,Sl bN H v,Sl aO q d]) (eC (us:=[Value.agg #[vI ((at' (at' b.2 a) p).1),vI ((at' (at' b.2 a) p).2)]]) (cs:=[vP L,vP f]) (show aQ Tryz.prog 190 from Tryz.call190) Z Z Z) Tryz.func190 Z Tryz.ntmps190 Z Z ?_ ?_
      ·refine aS<|aG (aJ.box (cs:=[vI ((at' (at' b.2 a) p).1),vI ((at' (at' b.2 a) p).2)]) Z Z) Z λeh=>aC Z<|aK<|aI ?_;refine JR.start [0,0,0,4,14,30,63,127] 6 mixedOrders (by decide +kernel) ?_;refine JR.open (by exact rfl) ?_;refine dY 2 Z<|dY 6 Z<|cN Z<|dY 0 Z<|dK h λcW h=>bI Z .nil (h_ 3 Z) (aZ Z Z (aE.fact 0 Z) Z Z cW) aN.z<|bI Z .nil (h_ 3 Z) (c_ (cs:=[vI ((at' d ((at' (at' b.2 a) p).1)).1),vI ((at' d ((at' (at' b.2 a) p).1)).2)]) Z (aE.fact 0 Z) bB Z Z Z Z cW) aN.z<|bK 6 Z Z<|gE (A:=Bool) (B:=Unit) (vs:=[Value.agg #[vI ((at' d ((at' (at' b.2 a) p).1)).1),vI ((at' d ((at' (at' b.2 a) p).1)).2)],vP G]) (λai=>wJ U b v d a p (bP (rW U b v d a) c1) ai=some r) (λai b0=>vB (ai)) (λai b0=>[bH L [Value.func (.func 192) #[] #[vP G]] 203,bH G [Value.func (.func 196) #[] #[vP e.1]] 203,bH e.1 [vI ((at' d a).1)] 3,bH u [vI (a)] 3,bH f [q] 49,bH t [g,j] 27]) (λai b0=>[Sl bN g b.1,S2 aO j C b.2,Sl bN H v,Sl aO q d]) (eC (us:=[Value.agg #[vI ((at' d ((at' (at' b.2 a) p).1)).1),vI ((at' d ((at' (at' b.2 a) p).1)).2)]]) (cs:=[vP G]) (show aQ Tryz.prog 192 from Tryz.call192) Z Z Z) Tryz.func192 Z Tryz.ntmps192 Z Z ?_ ?_
       ·refine aS<|aG (aJ.box (cs:=[vI ((at' d ((at' (at' b.2 a) p).1)).1),vI ((at' d ((at' (at' b.2 a) p).1)).2)]) Z Z) Z λei=>aC Z<|aK<|aS<|cJ 4 Z<|dM 0 Z<|eL h λc7 dP h=>aG (fQ (vs:=[Value.agg #[vI ((at' d ((at' (at' b.2 a) p).1)).1),vI ((at' d ((at' (at' b.2 a) p).1)).2)]]) (cs:=[vP e.1]) XE Z (Fg U e.1 c7 dP) Z (aD.cons (aE.res 5 Z) .nil) (λ_ _=>rfl)) Z λep=>aB (iZ Z) Z<|aC Z<|aK<|aP ?_;exact dO ((!c7)) () h (.inl Z) (uO.r1 Z (RV.tmp Z)) Z (aY.ix [3,4,5,6,7,8] Z Z) (aD.refl _ _)
       intro ai b0 h;unfold wJ at h;refine aC Z<|aK<|aP ?_;exact dO (ai) () h (.inl Z) (uO.r1 Z (RV.tmp Z)) Z (aY.refl _) (aD.refl _ _)
      intro au bY h;refine aK ?_;refine yC h Z (λ_ h=>?_) λ_ h=>?_
      ·refine aS<|aA Z<|aC Z<|aK<|aP<|bO<|aH<|aH<|bO<|aH ?_;exact dO (p) () h (.inl Z) (uO.r1 Z (RV.tmp Z)) Z (aY.ix [2,3,4,5] Z Z) (aD.refl _ _)
      refine dJ<|mP<|aR<|cO Z<|aA Z<|aK ?_;exact Ai (wI .i64 (p+(1:Int))) () h SF Z
     refine fE ?_;exact bT () (()) h SF (aY.ix [2,3,4,5] Z Z) (aD.refl _ _)
    intro bf cn h;unfold wH at h;refine aS<|aC Z<|aK<|aP ?_;exact dO (-1:Int) () h (.inl Z) (uO.r1 Z (RV.tmp Z)) Z (aY.refl _) (aD.refl _ _)
   intro ah bW h;unfold qI at h;refine aB (wP Z Z) Z<|aC Z<|aK<|aP ?_;exact dO (decide ((0:Int)<=ah)) () h (.inl Z) (uO.r1 Z (RV.tmp Z)) Z (aY.refl _) (aD.refl _ _)
  intro ag bV h;unfold wG at h;refine aB (iZ Z) Z<|aC Z<|aK<|aP ?_;exact dO ((!ag)) () h (.inl Z) (uO.r1 Z (RV.tmp Z)) Z (aY.refl _) (aD.refl _ _)
 intro ar bS h;refine aB (iZ Z) Z<|aK ?_;refine yC h Z (λ_ h=>?_) λ_ h=>?_
 ·refine aS<|aC Z<|aK<|aP<|aH ?_;cases h;exact sV Z
 refine cE<|aI<|aS<|aA Z<|cJ 1 Z<|dK h λcI h=>aB (aZ Z Z (aE.fact 2 Z) Z Z cI) Z<|aB (bU Z (aE.fact 2 Z) Z Z Z cS cI) Z<|cP Z<|aK ?_;refine eZ h Z (λh=>?_) λh=>?_
 ·refine aS<|cJ 0 Z<|cC Z<|aC Z<|aK<|aP<|aH ?_;cases h;exact sV Z
 refine cE<|aI ?_;refine JR.start [0,1,0,7,15,0,0,96,224,511,1023,2047,4095] 9 mixedOrders (by decide +kernel) ?_;refine JR.open (by exact rfl) ?_;refine cN Z<|dY 3 Z<|dY 1 Z<|dK h λav h=>bI Z .nil (h_ 1 Z) (cQ Z Z (aE.fact 0 Z) Z Z av) aN.z<|bI Z .nil (h_ 1 Z) (cL Z (aE.fact 0 Z) Z Z av) aN.z<|bE Z<|dY 1 Z<|dK h λcM h=>bI Z .nil (h_ 2 Z) (aZ Z Z (aE.fact 0 Z) Z Z cM) aN.z<|bI Z .nil (h_ 2 Z) (bU Z (aE.fact 0 Z) Z Z Z cS cM) aN.z<|bK 9 Z Z<|dK h λcR h=>aB (aZ Z Z (aE.el (aE.fact 1 Z) av.1 av.2) Z Z cR) Z<|aB (mC Z Z Z Z Z) Z<|aB (jK Z (aE.el (aE.fact 1 Z) av.1 av.2) Z Z Z oM cR) Z<|aC Z<|aK<|aI<|d_ (λaz=>mX  az=some r) (λaz cm=>[(10,vB (az))]) (λaz cm=>[]) ?_ ?_
 ·refine JR.start [0,0,3,7,0,0,0,112,255,511,1023,2047,4095,8191,8191,32767,65535,131071,262143,524287,1048575,2097151] 15 mixedOrders (by decide +kernel) ?_;refine JR.open (by exact rfl) ?_;refine bE Z<|bE Z<|dK h λcT h=>bI Z .nil (h_ 2 Z) (aZ Z Z (aE.fact 0 Z) Z Z cT) aN.z<|bI Z .nil (h_ 2 Z) (bU Z (aE.fact 0 Z) Z Z Z cS cT) aN.z<|hZ 3 Z<|bE Z<|dY 1 Z<|eL h λdC dN h=>JR.loud Z Z Z (aJ.callQ Qw (Dy U g j C dC dN) Z (lJ [0,1] Z)) Z (λdQ=>(jV [([],[2]),([],[2])] Z)) λdQ=>fY Z (De Z Z)<|fY Z (fC Z) ?_;refine Ax (by exact rfl) (by exact rfl) (by exact rfl) (λa9=>?_) (λa9=>?_)
  ·have h:=Ie a9 h;refine cD Z (aY.cons 0 Z .nil) .nil (cK 0 Z Z Z Z Z) (Bl Z)<|cD Z .nil .nil (De Z Z) (Bl Z)<|cD Z .nil .nil (fC Z) (Bl Z) ?_;refine Ax (by exact rfl) (by exact rfl) (by exact rfl) (λba=>?_) (λba=>?_)
   ·have h:=Ie ba h;refine a_ Z Z Z Z<|a_ Z Z Z Z<|bK 15 Z Z<|aL Z<|aL Z<|aL Z<|aL Z<|aV Z (HV Z Z) Z<|dU Z<|aC Z<|aK ?_;exact bT (true) () h SF .nil (aD.refl _ _)
   have h:=SH ba h;refine cD Z (aY.cons 2 Z .nil) .nil (cK 0 Z Z Z Z Z) (Bl Z)<|cD Z .nil .nil (fC Z) (Bl Z)<|bK 15 Z Z<|dK h λcU h=>aV Z (aZ Z Z (aE.fact 3 Z) Z Z cU) Z ?_;refine aV Z (pG (i:=0) Z Z Z Z Z (by decide)) Z ?_;refine aV Z (jK Z (aE.fact 3 Z) Z Z Z oM cU) Z<|aV Z (De Z Z) Z<|aV Z (HU Z Z) Z<|dU Z<|aC Z<|aK ?_;exact bT (decide (((at' d ((at' (at' b.2 a) (at' v a)).1)).1)=(0:Int))) () h SF .nil (aD.refl _ _)
  have h:=SH a9 h;refine a_ Z Z Z Z<|a_ Z Z Z Z<|a_ Z Z Z Z<|Zm (h:= ?_);refine Zm (h:= ?_);refine bK 15 Z Z<|WU (h:= ?_);refine WU (h:= ?_);refine WU (h:= ?_);refine WU (h:= ?_);refine aL Z<|e_ Z<|aC Z<|aK ?_;exact bT (false) () h SF .nil (aD.refl _ _)
 intro az cm h;unfold mX at h;refine aP ?_;cases h;exact kM Z
def oE (U:Nat) (d:Int) (b:cB) (e:aT) (f:b_) (g:Int) (c:Bool):Option (Bool):=
 if c=true then(some (false))else(Option.bind (kV U d ((b.1,b.2)) e f g) λa=>(some (a)))
def lN (U:Nat) (d:Int) (a:cB) (c:aT) (e:b_) (b:Int) (g:Bool):Option (Bool):=
 if g=true then(some (false))else(if(List.length c:Int)≠(List.length a.1:Int)then(oE U d a c e b (true))else(if(List.length e:Int)≠(List.length a.1:Int)then(oE U d a c e b (true))else(ck (0<=b∧b<(List.length c:Int)) (Option.bind (q_ U d ((a.1,a.2)) b (at' c b)) λf=>(oE U d a c e b ((!f)))))))
def kU (U:Nat) (c:Int) (a:cB) (d:aT) (e:b_) (b:Int):Option (Bool):=
 Option.bind (eM U ((a.1,a.2))) λf=>(if(!f)=true then(lN U c a d e b (true))else(Option.bind (sO U c) λg=>(if(!g)=true then(lN U c a d e b (true))else(if b<(0:Int)then(lN U c a d e b (true))else(lN U c a d e b (decide ((List.length a.1:Int)<=b)))))))
theorem aaj:aQ Tryz.prog 51:=Tryz.call51
theorem GZ (U:Nat) {j:Int} {k:cB} {u:aT} {v:b_} {i:Int} (f:Value)  (g:Value)  (w:mH)  (q:Value)  (s:Value) (r:Bool) (h:kU U j k u v i=some r):
  bA Tryz.prog 51 #[vI (j),Value.agg #[f,g],q,s,vI (i)] [Sl bN f k.1,S2 aO g w k.2,Sl bN q u,Sl aO s v] (λx:Unit=>vB (r)) (λx l=>l) (λ_ l=>l):=by
 refine bA.of Tryz.func51 Z Tryz.ntmps51 Z λc=>?_;refine aS<|aG (aJ.box (cs:=[f,g]) Z Z) Z λt=>aC Z<|aK<|aI<|aI<|d_ (λm=>lN U j k u v i m=some r) (λm G=>[(0,vI (j)),(2,q),(3,s),(4,vI (i)),(6,vP t),(29,vB (m))]) (λm G=>[bH t [f,g] 27]) ?_ ?_
 ·refine aR<|dM 0 Z<|eL h λA E h=>aG (aJ.callQ Gv (rO U f g w A E) Z (lJ [0,1] Z)) Z λK=>aB (iZ Z) Z<|aA Z ?_;refine Cf (by exact rfl) (by exact rfl) (λd=>?_) (λd=>?_)
  ·have h:=Ie d h;refine aL Z<|aL Z<|aL Z<|dU Z<|aA Z<|aL Z<|aL Z<|dU Z<|aA Z<|aL Z<|aL Z<|aL Z<|aL Z<|aL Z<|dU Z<|aK ?_;exact iI (true) () h SF Z
  have h:=Je d h;refine eS Z<|eL h λB F h=>rQ Z (aJ.callQ Ut (DC U  B F) Z .nil) Z λL=>aV Z (iZ Z) Z<|e_ Z<|aA Z ?_;refine Cf (by exact rfl) (by exact rfl) (λe=>?_) (λe=>?_)
  ·have h:=Ie e h;refine aL Z<|aL Z<|dU Z<|aA Z<|aL Z<|aL Z<|aL Z<|aL Z<|aL Z<|dU Z<|aK ?_;exact iI (true) () h SF Z
  have h:=Je e h;refine eS Z<|aV Z (Hj Z Z) Z<|e_ Z<|aA Z ?_;refine Cd h Z (λ_ h=>?_) λ_ h=>?_
  ·refine aL Z<|aL Z<|aL Z<|aL Z<|aL Z<|dU Z<|aK ?_;exact iI (true) () h SF Z
  refine eS Z<|aV Z (dR Z Z Z Z Z) Z<|aV Z (cK 0 Z Z Z Z Z) Z<|aV Z (fG Z (aE.fact 0 Z) Z) Z<|aV Z (wP Z Z) Z<|e_ Z<|aK ?_;exact iI (decide ((List.length k.1:Int)<=i)) () h SF Z
 intro m G h;refine yC h Z (λ_ h=>?_) λ_ h=>?_
 ·refine aS<|aC Z<|aK<|aP<|aH ?_;cases h;exact sV Z
 refine cE<|aI<|aI<|d_ (λn=>oE U j k u v i n=some r) (λn H=>[(0,vI (j)),(2,q),(3,s),(4,vI (i)),(6,vP t),(54,vB (n))]) (λn H=>[bH t [f,g] 27]) ?_ ?_
 ·refine JR.start [0,1,0,4,12,31,63,127,255,127,639,1663,4095,8191,16383,32767,32767,32767,32767,32767,819199,1867775,4194303,8388607,16777215] 22 mixedOrders (by decide +kernel) ?_;refine JR.open (by exact rfl) ?_;refine bE Z<|bI Z .nil (h_ 2 Z) (fG Z (aE.fact 0 Z) Z) aN.z<|cN Z<|dY 0 Z<|bI Z .nil (h_ 0 Z) (fG Z (aE.fact 0 Z) Z) aN.z<|fY Z (Bh Z Z)<|bE Z ?_;refine Ax (by exact rfl) (by exact rfl) (by exact rfl) (λa=>?_) (λa=>?_)
  ·have h:=Ie a h;refine a_ Z Z Z Z<|a_ Z Z Z Z<|a_ Z Z Z Z<|a_ Z Z Z Z<|a_ Z Z Z Z<|a_ Z Z Z Z<|fY Z (HV Z Z)<|bE Z<|a_ Z Z Z Z<|a_ Z Z Z Z<|a_ Z Z Z Z<|a_ Z Z Z Z<|a_ Z Z Z Z<|a_ Z Z Z Z<|a_ Z Z Z Z<|bK 22 Z Z<|aL Z<|aL Z<|dU Z<|aK ?_;exact iI (true) () h SF Z
  have h:=SH a h;refine cD Z .nil .nil (fC Z) aN.z<|cD Z .nil (h_ 3 Z) (fG Z (aE.fact 0 Z) Z) aN.z<|cD Z .nil .nil (dR Z Z Z Z Z) aN.z<|cD Z (aY.cons 0 Z .nil) .nil (cK 0 Z Z Z Z Z) aN.z<|cD Z .nil (h_ 0 Z) (fG Z (aE.fact 0 Z) Z) aN.z<|cD Z .nil .nil (Bh Z Z) aN.z<|fY Z (HU Z Z)<|bE Z ?_;refine Ax (by exact rfl) (by exact rfl) (by exact rfl) (λb=>?_) (λb=>?_)
  ·have h:=Ie b h;refine a_ Z Z Z Z<|a_ Z Z Z Z<|a_ Z Z Z Z<|a_ Z Z Z Z<|a_ Z Z Z Z<|a_ Z Z Z Z<|a_ Z Z Z Z<|bK 22 Z Z<|aL Z<|aL Z<|dU Z<|aK ?_;exact iI (true) () h SF Z
  have h:=SH b h;refine cD Z .nil .nil (fC Z) aN.z<|cD Z (aY.cons 0 Z .nil) .nil (lO 0 Z Z Z Z) aN.z<|cD Z .nil .nil (fC Z) aN.z<|cD Z .nil .nil (fC Z) aN.z<|cD Z .nil .nil (fC Z) aN.z<|dK h λo h=>cD Z .nil (h_ 2 Z) (aZ Z Z (aE.fact 0 Z) Z Z o) aN.z<|cD Z .nil (h_ 2 Z) (bU Z (aE.fact 0 Z) Z Z Z cS o) aN.z<|bK 22 Z Z<|eL h λp D h=>rQ Z (aJ.callQ Qq (CS U f g w p D) Z (lJ [0,1] Z)) Z λJ=>aV Z (iZ Z) Z<|e_ Z<|aK ?_;exact iI ((!p)) () h SF Z
 intro n H h;refine yC h Z (λ_ h=>?_) λ_ h=>?_
 ·refine aS<|aC Z<|aK<|aP<|aH ?_;cases h;exact sV Z
 refine cE<|aS<|aA Z<|dM 0 Z<|aA Z<|aA Z<|aA Z<|eL h λy C h=>aG (aJ.callQ Xu (G_ U f g w q s y C) Z (lJ [0,1,2,3] Z)) Z λI=>aC Z<|aK<|aP ?_;cases h;exact sV Z
def pA  (a:Int):Option (Int):=
 some (a)
def lV (b:eD) (a:iO->Option (Int)) (c:Int):Option (Int):=
 a (c,(wI .i64 (b.2+(1:Int))))
def jW (U:Nat) (e:Int) (c:cB) (f:aT) (g:b_) (a:eD) (b:iO->Option (Int)):Option (Int):=
 if a.2<(List.length c.1:Int)then(Option.bind (kU U e ((c.1,c.2)) f g a.2) λd=>(if(!d)=true then(ck (0<=a.2) (lV a b (JS .u32 a.1 (BB .u32 (1:Int) a.2))))else(lV a b (a.1))))else(pA  (a.1))
def iY (U:Nat) (b:Int) (a:cB) (c:aT) (d:b_):Option (Int):=
 Option.bind (eM U ((a.1,a.2))) λe=>(if(!e)=true then(some (0:Int))else(bP (jW U b a c d) U ((0:Int),(0:Int))))
theorem Ul:aQ Tryz.prog 14:=Tryz.call14
theorem AU (U:Nat) {g:Int} {d:cB} {p:aT} {q:b_} (e:Value)  (f:Value)  (w:mH)  (m:Value)  (n:Value) (r:Int) (h:iY U g d p q=some r):
  bA Tryz.prog 14 #[vI (g),Value.agg #[e,f],m,n] [Sl bN e d.1,S2 aO f w d.2,Sl bN m p,Sl aO n q] (λx:Unit=>vU (r)) (λx l=>l) (λ_ l=>l):=by
 refine bA.of Tryz.func14 Z Tryz.ntmps14 Z λc=>?_;refine aS<|aG (aJ.box (cs:=[e,f]) Z Z) Z λo=>aC Z<|aK<|aI<|aS<|dM 0 Z<|eL h λz A h=>aG (aJ.callQ Gv (rO U e f w z A) Z (lJ [0,1] Z)) Z λC=>aB (iZ Z) Z<|aK ?_;refine yC h Z (λ_ h=>?_) λ_ h=>?_
 ·refine aS<|aC Z<|aK<|aP<|aH ?_;cases h;exact sV Z
 refine cE<|aS<|aC Z<|aK<|aI<|d_ (λi=>pA  i=some r) (λi y=>[(9,vU (i))]) (λi y=>[]) ?_ ?_
 ·refine aS<|bX Z<|cJ 0 Z<|iH (aE.fact 0 Z) Z<|aA Z<|aK<|aU<|eH (jW U g d p q) (λa j=>[(0,vI (g)),(2,m),(3,n),(5,vP o),(9,vU (a.1)),(16,vI (List.length d.1:Int)),(17,vI (a.2))]) (λa j=>[bH o [e,f] 27]) ((0:Int),(0:Int)) () h SF (aY.refl _) ?_;intro t a j h;refine aS<|cP Z<|aK<|aI ?_;refine eZ h Z (λh=>?_) λh=>?_
  ·refine cE<|aI<|d_ (λb=>lV a (bP (jW U g d p q) t) b=some r) (λb k=>[(0,vI (g)),(2,m),(3,n),(5,vP o),(9,vU (b)),(16,vI (List.length d.1:Int)),(17,vI (a.2))]) (λb k=>[bH o [e,f] 27]) ?_ ?_
   ·refine aU<|aS<|aA Z<|aC Z<|aK<|aS<|aA Z<|dM 0 Z<|aA Z<|aA Z<|aA Z<|eL h λu v h=>aG (aJ.callQ aaj (GZ U e f w m n u v) Z (lJ [0,1,2,3] Z)) Z λB=>aB (iZ Z) Z<|aK ?_;refine yC h Z (λ_ h=>?_) λ_ h=>?_
    ·refine aR<|aA Z<|aA Z<|dK h λs h=>aB (Kl Z Z s) Z<|aB (Uc Z Z) Z<|aC Z<|fF<|mP ?_;exact iI (JS .u32 a.1 (BB .u32 (1:Int) a.2)) () h SF Z
    refine dJ<|mP ?_;exact iI (a.1) () h SF Z
   intro b k h;unfold lV at h;refine aR<|cO Z<|aA Z<|aK ?_;exact Ai (b,(wI .i64 (a.2+(1:Int)))) () h SF Z
  refine fE ?_;exact bT (a.1) () h SF .nil (aD.refl _ _)
 intro i y h;unfold pA at h;refine aS<|aA Z<|aC Z<|aK<|aP ?_;cases h;exact kM Z
end Go.Proofs.YtjkjpdonlpdcaaaGreatDoor
namespace Go.Proofs.YtjkjpdonlpdcaaaGreatDoor
open Go Go.Sx
abbrev VJ (g:GR) (l:b_) (v i:Nat):eD:=at' l (iA (row g v) i).1
abbrev SL (l:b_) (v:Nat):eD:=at' l (v:Int)
structure Et (g:GR) (st:aT) (l:b_) (v:Nat):Prop where
 V:VG g
 hv:v<g.2.length
 hs:st.length=g.2.length
 hl:l.length=g.2.length
theorem Et.nb {g:GR} {b:aT} {l:b_} {v:Nat} (h:Et g b l v) {i:Nat} (a:i<(row g v).length):0<=(iA (row g v) i).1∧(iA (row g v) i).1<(l.length:Int):=by
 have:=((h.V.node v h.hv).links i a).1;have:=h.hl;omega
theorem Et.deg {g:GR} {a:aT} {l:b_} {v:Nat} (h:Et g a l v):(row g v).length<24:=by
 have:=(h.V.node v h.hv).deg;have:=h.V.n24;omega
section
variable {g:GR} {st:List Int} {l:List (Int×Int)} {v:Nat}
abbrev Dd (g:GR) (l:List (Int×Int)) (v i:Nat):Prop:=(VJ g l v i).1=(SL l v).1
abbrev Iz (g:GR) (l:List (Int×Int)) (v i:Nat):Prop:=(VJ g l v i).2=wI .i64 ((SL l v).2 - 1)
theorem acP (h:Et g st l v):((∀i,i<(row g v).length->Dd g l v i)->bP (fM 1000 g l v) 1000 0=kR g l v true)∧(¬(∀i,i<(row g v).length->Dd g l v i)->bP (fM 1000 g l v) 1000 0=some false):=by
 have f:=h.deg;have j:(at' g.2 (v:Int)).length=(row g v).length:=rfl;refine Ig (row g v).length (Dd g l v) (λk c a b=> ?_) (λk c a b=> ?_) (λc=> ?_) 1000 (by omega)
 ·have d:=h.nb a;have e:(at' (at' g.2 (v:Int)) (k:Int)).1=(iA (row g v) k).1:=rfl;unfold fM fD;rw[if_pos (by omega),cV (by omega),cV (by omega),bM Z,decide_eq_true b];unfold mS qE;rw[if_neg (by simp),wr (by omega) (by omega)]
 ·have d:=h.nb a;have e:(at' (at' g.2 (v:Int)) (k:Int)).1=(iA (row g v) k).1:=rfl;unfold fM fD;rw[if_pos (by omega),cV (by omega),cV (by omega),bM Z,decide_eq_false b];unfold mS qE mR;rw[if_pos (by rfl),decide_eq_true (by omega)];rfl
 ·unfold fM;rw[if_neg (by omega)];rfl
theorem acR (h:Et g st l v):((∀i,i<(row g v).length->Dd g l v i)->bP (fN 1000 g l v) 1000 0=mT 1000 g l v true)∧(¬(∀i,i<(row g v).length->Dd g l v i)->bP (fN 1000 g l v) 1000 0=some false):=by
 have f:=h.deg;have j:(at' g.2 (v:Int)).length=(row g v).length:=rfl;refine Ig (row g v).length (Dd g l v) (λk c a b=> ?_) (λk c a b=> ?_) (λc=> ?_) 1000 (by omega)
 ·have d:=h.nb a;have e:(at' (at' g.2 (v:Int)) (k:Int)).1=(iA (row g v) k).1:=rfl;unfold fN fD;rw[if_pos (by omega),cV (by omega),cV (by omega),bM Z,decide_eq_true b];unfold mW qG;rw[if_neg (by simp),wr (by omega) (by omega)]
 ·have d:=h.nb a;have e:(at' (at' g.2 (v:Int)) (k:Int)).1=(iA (row g v) k).1:=rfl;unfold fN fD;rw[if_pos (by omega),cV (by omega),cV (by omega),bM Z,decide_eq_false b];unfold mW qG mV;rw[if_pos (by rfl),decide_eq_true (by omega)];rfl
 ·unfold fN;rw[if_neg (by omega)];rfl
theorem acQ (h:Et g st l v):((∀i,i<(row g v).length->¬Iz g l v i)->bP (iD 1000 g l v) 1000 0=some false)∧(¬(∀i,i<(row g v).length->¬Iz g l v i)->bP (iD 1000 g l v) 1000 0=some true):=by
 have f:=h.deg;have j:(at' g.2 (v:Int)).length=(row g v).length:=rfl;refine Ig (row g v).length (λi=>¬Iz g l v i) (λk c a b=> ?_) (λk c a b=> ?_) (λc=> ?_) 1000 (by omega)
 ·have d:=h.nb a;have e:(at' (at' g.2 (v:Int)) (k:Int)).1=(iA (row g v) k).1:=rfl;unfold iD kW;rw[if_pos (by omega),cV (by omega),cV (by omega),bM Z,decide_eq_false b];unfold qF;rw[if_neg (by simp),wr (by omega) (by omega)]
 ·have d:=h.nb a;have e:(at' (at' g.2 (v:Int)) (k:Int)).1=(iA (row g v) k).1:=rfl;unfold iD kW;rw[if_pos (by omega),cV (by omega),cV (by omega),bM Z,decide_eq_true (Classical.not_not.1 b)];unfold qF mU;rw[if_pos Z,decide_eq_true (by omega)];rfl
 ·unfold iD;rw[if_neg (by omega)];rfl
theorem PI (h:Et g st l v) (a:Int):kV 1000 a g st l (v:Int)=rR 1000 a g st l (v:Int) ():=by
 have:=h.hl;have:=h.hv;unfold kV;rw[cV (by omega),cV (by omega)]
theorem YQ (h:Et g st l v):kR g l v true=some (decide ((SL l v).1=at' g.1 (v:Int)∧(SL l v).2=0)):=by
 have e:=h.hv;have c:=h.V.len;unfold kR kQ;rw[if_pos Z,cV (by omega)];by_cases a:(at' l (v:Int)).1=at' g.1 (v:Int)
 ·rw[if_pos a];congr 1;exact decide_eq_decide.2 ⟨λb=>⟨a,b⟩,λb=>b.2⟩
 ·rw[if_neg a,decide_eq_false (λd=>a d.1)]
def RN (g:GR) (st:List Int) (l:List (Int×Int)) (v:Nat):Prop:=(∀i,i<(row g v).length->Dd g l v i)∧if at' st (v:Int)=1 then(SL l v).1=at' g.1 (v:Int)∧(SL l v).2=0 else 1<=(SL l v).2∧∃i,i<(row g v).length∧Iz g l v i
theorem Xe (h:Et g st l v):∃b:Bool,kV 1000 2 g st l (v:Int)=some b∧(b=true↔RN g st l v):=by
 have p:=h.hs;have o:=h.hl;have r:=h.hv;have n:kV 1000 2 g st l (v:Int)=if at' st (v:Int)=1 then bP (fM 1000 g l v) 1000 0 else bP (fN 1000 g l v) 1000 0:=by
  rw[PI h];unfold rR;rw[if_neg (by decide),if_pos Z,cV (by omega),cV (by omega),cV (by omega)]
 rw[n];unfold RN;by_cases a:∀i,i<(row g v).length->Dd g l v i
 rotate_left
 ·rw[(acP h).2 a,(acR h).2 a];exact⟨false,by split<;>rfl,⟨λq=>(by cases q),λq=>absurd q.1 a⟩⟩
 rw[(acP h).1 a,(acR h).1 a,YQ h];by_cases d:at' st (v:Int)=1
 ·rw[if_pos d,if_pos d];exact⟨_,rfl,by rw[decide_eq_true_eq];exact⟨λq=>⟨a,q⟩,λq=>q.2⟩⟩
 rw[if_neg d,if_neg d];unfold mT kS;rw[if_pos Z];by_cases e:(1:Int)<=(at' l (v:Int)).2
 ·rw[if_pos e,cV (by omega)];by_cases c:∀i,i<(row g v).length->¬Iz g l v i
  ·rw[(acQ h).1 c];exact⟨false,rfl,⟨λq=>(by cases q),λq=>by obtain⟨_,_,i,f,m⟩:=q;exact absurd m (c i f)⟩⟩
  ·rw[(acQ h).2 c];refine⟨true,rfl,⟨λ_=>⟨a,e,?_⟩,λ_=>rfl⟩⟩
   apply Classical.byContradiction;intro k;exact c λi f j=>k ⟨i,f,j⟩
 ·rw[if_neg e];exact⟨false,rfl,⟨λq=>(by cases q),λq=>absurd q.2.1 e⟩⟩
end
theorem Re {g:GR} (v x:Int) (h:x=0∨x=1):q_ 1000 2 g v x=some true:=by
 unfold q_;rw[if_neg (by decide)];unfold tC;rw[if_neg (by decide),if_pos Z];unfold pS;rcases h with rfl|rfl
 ·rfl
 ·rfl
theorem Xf {g:GR} (c:VG g) {a:List Int} {l:List (Int×Int)} {v:Nat} (f:v<g.2.length) (k:a.length=g.2.length) (j:l.length=g.2.length) (d:∀v:Nat,v<g.2.length->at' a (v:Int)=0∨at' a (v:Int)=1):
  ∃b:Bool,kU 1000 2 g a l (v:Int)=some b∧(b=true↔RN g a l v):=by
 have e:=c.len;obtain⟨b,h,i⟩:=Xe (st:=a) (l:=l) ⟨c,f,k,j⟩;refine⟨b,?_,i⟩
 unfold kU;rw[bM (show eM 1000 (g.1,g.2)=some true from(Gh g c.light).1 c),if_neg (by simp),bM (show sO 1000 2=some true from rfl),if_neg (by decide),if_neg (by omega),decide_eq_false (by omega)];unfold lN;rw[if_neg (by decide),if_neg (by omega),if_neg (by omega),cV (by omega),bM (Re _ _ (d v f))];unfold oE;rw[if_neg (by decide),bM h]
theorem Rn {g:GR} (f:VG g) {st:List Int} {l:List (Int×Int)} (w:st.length=g.2.length) (t:l.length=g.2.length) (n:∀v:Nat,v<g.2.length->at' st (v:Int)=0∨at' st (v:Int)=1):
  ∃r:Int,iY 1000 2 g st l=some r∧(r=0↔∀v,v<g.2.length->RN g st l v):=by
 have s:=f.n24;have o:=f.len;let a:Nat->Bool:=λv=>(kU 1000 2 g st l (v:Int)).getD false;have c:∀v,v<g.2.length->kU 1000 2 g st l (v:Int)=some (a v)∧(a v=true↔RN g st l v):=λv e=>by
  obtain⟨b,j,m⟩:=Xf f e w t n;have:a v=b:=by simp only[a];rw[j];rfl
  rw[this];exact⟨j,m⟩
 refine⟨((wU (λv=> !a v) g.2.length:Nat):Int),?_,?_⟩
 ·unfold iY;rw[bM (show eM 1000 (g.1,g.2)=some true from(Gh g f.light).1 f),if_neg (by simp)];refine eB (step:=jW 1000 2 g st l) (F:=λv:Nat=>(((wU (λv=> !a v) v:Nat):Int),(v:Int))) g.2.length (λv p e=> ?_) (λp=> ?_) 1000 (by omega)
  ·have u:=LS (λv=> !a v) (k:=v) (by omega);unfold jW lV;dsimp only;rw[if_pos (by omega),bM (show kU 1000 2 (g.1,g.2) st l (v:Int)=_ from(c v e).1),eY (by omega)];cases j:a v with
   |true=>rw[if_neg (by decide)];simp[wU,j]
   |false=>rw[if_pos (by decide),cV (by omega),Lq u (by omega)];simp[wU,j]
  ·unfold jW pA;dsimp only;rw[if_neg (by omega)]
 ·constructor
  ·intro h v e;refine(c v e).2.1 ?_;have q:wU (λv=> !a v) g.2.length=0:=by omega
   have d:=Ea (λv=> !a v) v g.2.length;rw[q,decide_eq_true e]at d;simpa using d
  ·intro h;have:wU (λv=> !a v) g.2.length=0:=YM λi=>by
    rw[Ea,Nat.zero_testBit];by_cases m:i<g.2.length
    ·rw[(c i m).2.2 (h i m)];simp
    ·rw[decide_eq_false m];rfl
   rw[this];rfl
def IA (st:List Int) (x:Int) (a:Nat):Prop:=a<st.length∧at' st (a:Int)=x∧∀b:Nat,b<st.length->at' st (b:Int)=x->b=a
def acJ (b:List Int) (x r:Int):Prop:=(r = -1∧¬ ∃a,IA b x a)∨∃a:Nat,r=(a:Int)∧IA b x a
theorem YO (h:List Int) (x:Int) (F:h.length<=100):OK (acJ h x) (uC 1000 h x):=by
 unfold uC;refine xF (λs:Int×Int×Int=>∃k f:Nat,s.2.2=k∧s.2.1=f∧k<=h.length∧f<=k∧((f=0∧s.1 = -1∧∀b:Nat,b<k->at' h (b:Int)≠x)∨(f=1∧∃a:Nat,s.1=a∧a<k∧at' h (a:Int)=x∧∀b:Nat,b<k->at' h (b:Int)=x->b=a)∨(2<=f∧∃a b:Nat,a<b∧b<k∧at' h (a:Int)=x∧at' h (b:Int)=x))) (λs=>h.length - s.2.2.toNat) ?_ 1000 _ ⟨0,0,rfl,rfl,by omega,by omega,.inl ⟨rfl,rfl,λb t=>by omega⟩⟩ (by dsimp only;omega);rintro⟨r,C,G⟩ B ⟨k,f,y,w,A,z,o⟩ l;dsimp only at y w o;subst y w;unfold xN sL AJ;dsimp only;by_cases n:(k:Int)<(h.length:Int)
 ·rw[if_pos n,cV (by omega),wr (by omega) (by omega),wr (by omega) (by omega)];by_cases m:at' h (k:Int)=x
  ·rw[if_pos m];refine l _ ⟨k+1,f+1,by simp,by simp,by omega,by omega,?_⟩ (by dsimp only;omega);dsimp only;rcases o with⟨j,d,c⟩|⟨j,a,d,c,g,i⟩|⟨j,a,b,d,c,g,i⟩
   ·refine .inr (.inl ⟨by omega,k,rfl,by omega,m,λb t p=> ?_⟩);by_cases e:b=k
    ·exact e
    ·exact absurd p (c b (by omega))
   ·exact .inr (.inr ⟨by omega,a,k,c,by omega,g,m⟩)
   ·exact .inr (.inr ⟨by omega,a,b,d,by omega,g,i⟩)
  ·rw[if_neg m];refine l _ ⟨k+1,f,by simp,rfl,by omega,by omega,?_⟩ (by dsimp only;omega);dsimp only;rcases o with⟨j,d,c⟩|⟨j,a,d,c,g,i⟩|⟨j,a,b,d,c,g,i⟩
   ·refine .inl ⟨j,d,λb t=> ?_⟩;by_cases e:b=k
    ·subst e;exact m
    ·exact c b (by omega)
   ·refine .inr (.inl ⟨j,a,d,by omega,g,λb t p=> ?_⟩);by_cases e:b=k
    ·subst e;exact absurd p m
    ·exact i b (by omega) p
   ·exact .inr (.inr ⟨j,a,b,d,by omega,g,i⟩)
 ·rw[if_neg n];have u:k=h.length:=by omega
  subst u;rcases o with⟨j,d,c⟩|⟨j,a,d,c,g,i⟩|⟨j,a,b,d,c,g,i⟩
  ·rw[if_pos (by omega)];exact⟨_,rfl,.inl ⟨rfl,fun⟨a,g,i,_⟩=>c a g i⟩⟩
  ·rw[if_neg (by omega)];exact⟨_,rfl,.inr ⟨a,d,c,g,i⟩⟩
  ·rw[if_pos (by omega)];exact⟨_,rfl,.inl ⟨rfl,fun⟨q,D,E,v⟩=>by
    have:=v a (by omega) g;have:=v b c i;omega⟩⟩
theorem Vt {g:GR} (j:VG g) {h:List Int} {s:Nat} {d:List Int} (G:h.length=g.2.length) (t:IA h 1 s) (y:gM 1000 g (s:Int)=some d) (B:Al g s d):OK (λq:List (Int×Int)×Bool=>q.2=true∧q.1.length=g.2.length∧∀v:Nat,v<g.2.length->at' q.1 (v:Int)=(at' g.1 (s:Int),D d v)) (qZ 1000 g h):=by
 have A:=j.n24;have J:=j.n1;have p:=j.len;unfold qZ;obtain⟨M,z,b⟩:=YO h 1 (by omega);rw[bM z];rcases b with⟨b,E⟩|⟨r,rfl,b⟩
 ·exact absurd ⟨s,t⟩ E
 obtain rfl:r=s:=t.2.2 r b.1 b.2.1;have F:=b.1;rw[if_neg (by omega),cV (by omega)];have w:Int.toNat (h.length:Int)=g.2.length:=by omega
 rw[w];have C:=B.len;rw[bM y];refine xF (λs:Int×List (Int×Int)=>∃k:Nat,s.1=k∧k<=g.2.length∧s.2.length=g.2.length∧∀v:Nat,v<k->at' s.2 (v:Int)=(at' g.1 (r:Int),D d v)) (λs=>g.2.length - s.1.toNat) ?_ 1000 _ ⟨0,rfl,by omega,by simp,λv L=>by omega⟩ (by dsimp only;omega);rintro⟨i,l⟩ I ⟨v,o,H,m,a⟩ c;dsimp only at o m a;subst o;unfold yU;dsimp only;by_cases f:(v:Int)<(d.length:Int)
 ·rw[if_pos f,cV (by omega),cV (by omega),cV (by omega),wr (by omega) (by omega)];have x:Int.toNat (v:Int)=v:=by omega
  rw[x];refine c _ ⟨v+1,by simp,by omega,by simpa using m,λu K=> ?_⟩ (by dsimp only;omega);dsimp only;rw[zY _ _ _ _ (by omega)];by_cases e:u=v
  ·subst e;rw[if_pos Z]
  ·rw[if_neg e];exact a u (by omega)
 ·rw[if_neg f];have n:v=g.2.length:=by omega
  subst n;exact⟨_,rfl,rfl,m,a⟩
theorem aba {g:GR} (a:VG g) (n:OE g) {st:List Int} {s:Nat} {d:List Int} (t:st.length=g.2.length) (c:∀v:Nat,v<g.2.length->at' st (v:Int)=0∨at' st (v:Int)=1) (q:IA st 1 s) (k:gM 1000 g (s:Int)=some d) (o:Al g s d):
  ∃l:List (Int×Int),sN 1000 2 g st=some (l,0)∧l.length=g.2.length∧∀v:Nat,v<g.2.length->at' l (v:Int)=(at' g.1 (s:Int),D d v):=by
 have m:=a.n24;have i:=a.len;obtain⟨⟨l,b⟩,r,h,e,f⟩:=Vt a t q k o;dsimp only at h e f;subst h;have p:uB 1000 2 g st=some true:=by
  unfold uB;rw[if_neg (by omega)];refine eB (step:=sK 1000 2 g st) (F:=λv:Nat=>(v:Int)) g.2.length (λv j u=> ?_) (λj=> ?_) 1000 (by omega)
  ·unfold sK;rw[if_pos (by omega),cV (by omega),bM (Re _ _ (c v u)),if_neg (by decide),eY (by omega)]
  ·unfold sK xM;rw[if_neg (by omega)]
 refine⟨l,?_,e,f⟩
 unfold sN;rw[bM (show iF 1000 (g.1,g.2)=some true from(FD a).1 n),if_neg (by decide),bM (show sO 1000 2=some true from rfl),if_neg (by decide),bM (show uB 1000 2 (g.1,g.2) st=_ from p),if_neg (by decide),cV (by decide),if_neg (by decide),if_pos (by decide),bM (show qZ 1000 (g.1,g.2) st=_ from r)];rfl
end Go.Proofs.YtjkjpdonlpdcaaaGreatDoor
namespace Go.Proofs.YtjkjpdonlpdcaaaGreatDoor
open Go.Sx
def qT  (a:Bool):Option (Bool):=
 some (a)
def xP (U:Nat) (a:Int):Option (Bool):=
 if(1:Int)<=a then(qT  (decide (a<=(4:Int))))else(qT  (false))
theorem Xn:aQ Tryz.prog 102:=Tryz.call102
theorem JB (U:Nat) {b:Int} (r:Bool) (h:xP U b=some r):
  bA Tryz.prog 102 #[vI (b)] [] (λx:Unit=>vB (r)) (λx l=>l) (λ_ l=>l):=by
 refine bA.of Tryz.func102 Z Tryz.ntmps102 Z λc=>?_;refine aS<|aC Z<|aK<|aI<|d_ (λa=>qT  a=some r) (λa d=>[(2,vB (a))]) (λa d=>[]) ?_ ?_
 ·refine aR<|aA Z<|aB (wP Z Z) Z<|aA Z ?_;refine Cd h Z (λ_ h=>?_) λ_ h=>?_
  ·refine eS Z<|aV Z (BO Z Z) Z<|dU Z<|aC Z<|aK ?_;exact iI (decide (b<=(4:Int))) () h SF Z
  refine aL Z<|aL Z<|e_ Z<|aC Z<|aK ?_;exact iI (false) () h SF Z
 intro a d h;unfold qT at h;refine aP ?_;cases h;exact kM Z
def zS (U:Nat) (a:Ca) (b:cB) (d:Int) (e:bW) (f:Int):Option (Int):=
 Option.bind (sQ U ((a.1,a.2.1,a.2.2)) ((b.1,b.2)) e) λc=>(if c≠(0:Int)then(some (c))else(Option.bind (xP U d) λg=>(if(!g)=true then(some (12:Int))else(if(4096:Int)<f then(some (3:Int))else(some (0:Int))))))
theorem aaa:aQ Tryz.prog 27:=Tryz.call27
theorem Oc (U:Nat) {a:Ca} {g:cB} {j:Int} {k:bW} {m:Int} (b:Value)  (d:Value)  (e:Value)  (f:Value)  (n:mH)  (i:Value)  (o:wL) (r:Int) (h:zS U a g j k m=some r):
  bA Tryz.prog 27 #[Value.agg #[vS (a.1),b,d],Value.agg #[e,f],vI (j),i,vI (m)] [Sl aW b a.2.1,Sl aM d a.2.2,PF (Value.agg #[vS a.1,b,d]),Sl bN e g.1,S2 aO f n g.2,S2 bN i o k] (λx:Unit=>vI (r)) (λx l=>l) (λ_ l=>l):=by
 refine bA.of Tryz.func27 Z Tryz.ntmps27 Z λc=>?_;refine aS<|aG (aJ.box (cs:=[vS (a.1),b,d]) Z Z) Z λu=>aG (aJ.box (cs:=[e,f]) Z Z) Z λv=>aC Z<|aK<|aI<|aS<|dM 1 Z<|dM 0 Z<|aA Z<|eL h λp s h=>aG (aJ.callQ aal (JG U b d e f n i o p s) Z (lJ [0,1,2,3,4,5] Z)) Z λw=>aC Z<|aK<|aS<|aA Z<|oT Z<|aK ?_;refine eZ h Z (λh=>?_) λh=>?_
 ·refine aS<|aA Z<|aC Z<|aK<|aP<|aH ?_;cases h;exact sV Z
 refine cE<|aI<|aS<|aA Z<|eL h λq t h=>aG (aJ.callQ Xn (JB U  q t) Z .nil) Z λy=>aB (iZ Z) Z<|aK ?_;refine yC h Z (λ_ h=>?_) λ_ h=>?_
 ·refine aS<|aC Z<|aK<|aP<|aH ?_;cases h;exact sV Z
 refine cE<|aI<|aS<|aA Z<|aB (Ah Z Z) Z<|aK ?_;refine eZ h Z (λh=>?_) λh=>?_
 ·refine aS<|aC Z<|aK<|aP<|aH ?_;cases h;exact sV Z
 refine cE<|aS<|aC Z<|aK<|aP ?_;cases h;exact sV Z
def tF (U:Nat) (a:bW) (b:Int) (c:EH):Option (Unit):=
 some (())
theorem Uo:aQ Tryz.prog 29:=Tryz.call29
theorem Gd (U:Nat) {b:bW} {d:Int} {a:EH} (e:Value)  (f:wL) (r:Unit) (h:tF U b d a=some r):
  bA Tryz.prog 29 #[e,vU (d),Value.agg #[vI (a.1),vI (a.2.1),vI (a.2.2.1),vI (a.2.2.2.1),vU (a.2.2.2.2)]] [S2 bN e f b] (λx:Unit=>Value.tuple #[]) (λx l=>l) (λ_ l=>l):=by
 refine bA.of Tryz.func29 Z Tryz.ntmps29 Z λc=>?_;unfold tF at h;refine aR<|aG (aJ.box (cs:=[vI (a.1),vI (a.2.1),vI (a.2.2.1),vI (a.2.2.2.1),vU (a.2.2.2.2)]) Z Z) Z λg=>fF ?_;cases h;exact DN () Z Z .normal (.inr Z) .nil aD.nil
def u_ (U:Nat) (a:Int):Option ((Int×Int×Int×Int×Int)):=
 some (((0:Int),(0:Int),(0:Int),(0:Int),(eO .u32 a (16777215:Int))))
theorem Xz:aQ Tryz.prog 166:=Tryz.call166
theorem HE (U:Nat) {a:Int} (r:(Int×Int×Int×Int×Int)) (h:u_ U a=some r):
  bA Tryz.prog 166 #[vU (a)] [] (λx:Unit=>Value.agg #[vI (r.1),vI (r.2.1),vI (r.2.2.1),vI (r.2.2.2.1),vU (r.2.2.2.2)]) (λx l=>l) (λ_ l=>l):=by
 refine bA.of Tryz.func166 Z Tryz.ntmps166 Z λc=>?_;unfold u_ at h;refine aS<|aG (aJ.alloc (cs:=ZC) Z Z) Z λb=>aK<|aS<|aA Z<|Ak Z ?_;refine aB (TY (r:=Value.agg #[vI (0:Int),vI (0:Int),vI (0:Int),vI (0:Int),vU (eO .u32 a (16777215:Int))]) Z (by intro w;simp[Instr.build,Instr.fill,eP,dV,dH,eQ,eR,dW,fS])) Z ?_;refine bR 0 (vs:=[vI (0:Int),vI (0:Int),vI (0:Int),vI (0:Int),vU (eO .u32 a (16777215:Int))]) Z Z Z Z Z Z<|aK<|aP ?_;cases h;exact kC () Z Z (RV.cell 0 Z Z Z Z) .nil aD.nil
end Go.Proofs.YtjkjpdonlpdcaaaGreatDoor