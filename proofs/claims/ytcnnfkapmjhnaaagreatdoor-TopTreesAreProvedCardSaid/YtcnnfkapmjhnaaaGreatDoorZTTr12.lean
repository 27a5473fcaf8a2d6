/- Models and proofs. Conditions: none. -/
import Derived.Test.YtcnnfkapmjhnaaaGreatDoorZTTr11
import Derived.Test.YtcnnfkapmjhnaaaGreatDoorZTTr2
import Derived.Test.YtcnnfkapmjhnaaaGreatDoorZTTr8
import Derived.Test.YtcnnfkapmjhnaaaGreatDoorZTTr5
import Derived.Test.YtcnnfkapmjhnaaaGreatDoorZTTr7
set_option linter.unusedVariables false
set_option linter.unusedSimpArgs false
set_option maxHeartbeats 4000000
set_option maxRecDepth 20000
namespace Go.Proofs.YtcnnfkapmjhnaaaGreatDoor
open Go.Sx
def mZ  (a:Bool):Option Bool:=
 some (a)
def m_ (c:b_) (d:cC) (a:Int) (b:Bool):Option Bool:=
 if b=true then(ck (0<=a∧a<(c.1.length:Int)) (if((at' d a).1)=(at' c.1 a)then(mZ  (decide (((at' d a).2)=(0:Int))))else(mZ  (false))))else(mZ  (false))
def zL (b:b_) (c:cC) (d:Int) (a:Bool):Option Bool:=
 m_ b c d ((!a))
def qA (b:b_) (c:cC) (d:Int) (a:Int):Option Bool:=
 zL b c d (decide ((0:Int)<=a))
def zM (b:b_) (c:cC) (d:Int) (a:Unit):Option Bool:=
 qA b c d (-1:Int)
def tT (d:b_) (e:cC) (f:Int) (a:Int) (b:(Int)->Option Bool) (c:Bool):Option Bool:=
 if c=true then(qA d e f (a))else(b (wI .i64 (a+(1:Int))))
def qB (d:b_) (e:cC) (f:Int) (b:Int) (a:(Int)->Option Bool) (c:Bool):Option Bool:=
 tT d e f b a (c)
def gG (U:Nat) (c:b_) (d:cC) (b:Int) (a:Int) (e:(Int)->Option Bool):Option Bool:=
 if a<((at' c.2 b).length:Int)then(ck (0<=a∧a<((at' c.2 b).length:Int)) (ck (0<=((at' (at' c.2 b) a).1)∧((at' (at' c.2 b) a).1)<(d.length:Int)) (Option.bind (iR U ((((at' d ((at' (at' c.2 b) a).1)).1),((at' d ((at' (at' c.2 b) a).1)).2))) ((at' d b).1)) λf=>(qB c d b a e ((!f))))))else(zM c d b (()))
def nA  (a:Bool):Option Bool:=
 some (a)
def oS (U:Nat) (c:b_) (b:aO) (d:cC) (a:Int) (e:Bool):Option Bool:=
 if e=true then(if(1:Int)<=((at' d a).2)then(ck (0<=a∧a<(c.2.length:Int)) (ck (0<=a∧a<(b.length:Int)) (ck (0<=(at' b a)∧(at' b a)<((at' c.2 a).length:Int)) (ck (0<=((at' (at' c.2 a) (at' b a)).1)∧((at' (at' c.2 a) (at' b a)).1)<(d.length:Int)) (Option.bind (sL U ((((at' d ((at' (at' c.2 a) (at' b a)).1)).1),((at' d ((at' (at' c.2 a) (at' b a)).1)).2))) ((at' d a).2)) λf=>(nA  (f)))))))else(nA  (false)))else(nA  (false))
def yH (U:Nat) (b:b_) (c:aO) (d:cC) (e:Int) (a:Bool):Option Bool:=
 oS U b c d e ((!a))
def oT (U:Nat) (b:b_) (c:aO) (d:cC) (e:Int) (a:Int):Option Bool:=
 yH U b c d e (decide ((0:Int)<=a))
def yI (U:Nat) (b:b_) (c:aO) (d:cC) (e:Int) (a:Unit):Option Bool:=
 oT U b c d e (-1:Int)
def sI (U:Nat) (d:b_) (e:aO) (f:cC) (g:Int) (a:Int) (b:(Int)->Option Bool) (c:Bool):Option Bool:=
 if c=true then(oT U d e f g (a))else(b (wI .i64 (a+(1:Int))))
def oU (U:Nat) (d:b_) (e:aO) (f:cC) (g:Int) (b:Int) (a:(Int)->Option Bool) (c:Bool):Option Bool:=
 sI U d e f g b a (c)
def gH (U:Nat) (c:b_) (g:aO) (d:cC) (b:Int) (a:Int) (e:(Int)->Option Bool):Option Bool:=
 if a<((at' c.2 b).length:Int)then(ck (0<=a∧a<((at' c.2 b).length:Int)) (ck (0<=((at' (at' c.2 b) a).1)∧((at' (at' c.2 b) a).1)<(d.length:Int)) (Option.bind (iR U ((((at' d ((at' (at' c.2 b) a).1)).1),((at' d ((at' (at' c.2 b) a).1)).2))) ((at' d b).1)) λf=>(oU U c g d b a e ((!f))))))else(yI U c g d b (()))
def tS (U:Nat) (e:Int) (b:b_) (c:aO) (d:cC) (a:Int) (f:Unit):Option Bool:=
 if e=(1:Int)then(ck (0<=a∧a<(c.length:Int)) (if(at' c a)<(0:Int)then(ck (0<=a∧a<(b.2.length:Int)) (bH (gG U b d a) U (0:Int)))else(ck (0<=a∧a<(b.2.length:Int)) (bH (gH U b c d a) U (0:Int)))))else(none)
def lX (U:Nat) (c:Int) (d:b_) (e:aO) (b:cC) (a:Int):Option Bool:=
 ck (0<=a∧a<(b.length:Int)) (ck (0<=a∧a<(b.length:Int)) (tS U c d e b a (())))
theorem abK:aS Tryz.prog 178:=Tryz.call178
theorem JM (U:Nat) {p0:Int} {b:b_} {n:aO} {d:cC} {a:Int} (j:Value)  (k:Value)  (Q:jO)  (P:Value)  (s:Value) (r:Bool) (h:lX U p0 b n d a=some r):
  aY Tryz.prog 178 #[vI (p0),Value.agg #[j,k],P,s,vI (a)] [Sl bP j b.1,S2 aV k Q b.2,Sl bP P n,Sl aV s d] (λx:Unit=>vB (r)) (λx l=>l) (λ_ l=>l):=by
 refine aY.of Tryz.func178 Z Tryz.ntmps178 Z λc=>?_;unfold lX at h;refine aP<|aG (aI.box (cs:=[j,k]) Z Z) Z λt=>dH (Know.one ((aE.fact 3 Z))) λba=>?_;refine aG (aI.box (cs:=[s]) Z (by rw[kX ba])) Z λm=>?_;refine aG (aI.box (cs:=[vI (a)]) Z Z) Z λu=>aC Z<|aJ<|aK<|El (B:=Nat×Nat) (λa7=>tS U p0 b n d a a7=some r) (λa7 g=>[(0,vI (p0)),(2,P),(6,vP t),(8,vP m),(9,vP u),(11,vP g.1),(12,vP g.2)]) (λa7 g=>[bM g.2 [vI ((at' d a).2)] 3,bM g.1 [vI ((at' d a).1)] 3,bM u [vI (a)] 3,bM m [s] 25,bM t [j,k] 29]) ?_ ?_
 ·have⟨j103,h⟩:=Pd h;refine dQ h λJ h=>Jc [0,0,3,7,15,0,0,96,224,480,0,0,3103,8191] 13 [[0,1,2,3,4,5,6,7,8,9,10,11,12,13],[0,1,2,3,4,5,6,7,8,9,11,10,12,13]] mixedOrders (by decide +kernel) (by decide +kernel) ?_;intro o ho;simp only[zAk,zB3,or_false]at ho;rcases ho with rfl|rfl
  ·refine fG 1 Z<|fG 0 Z<|bG Z .nil (hZ 3 Z) (aZ Z Z (aE.fact 0 Z) Z Z j103) aN.z ?_;refine gO Z (uZ (i:=0) Z Z Z Z Z (by decide)) ?_;refine bG Z .nil (hZ 3 Z) (mA Z (aE.fact 0 Z) Z Z Z sF j103) aN.z<|fG 1 Z<|fG 0 Z<|bG Z .nil (hZ 3 Z) (aZ Z Z (aE.fact 0 Z) Z Z J) aN.z ?_;refine gO Z (uZ (i:=1) Z Z Z Z Z (by decide)) ?_;refine bG Z .nil (hZ 3 Z) (mA Z (aE.fact 0 Z) Z Z Z Hk J) aN.z<|zBc Z Z Z (aI.alloc (cs:=[vI (0:Int)]) Z Z) Z (λaa=>(jD [([],[3]),([],[3]),([1],[]),([2],[]),([],[3]),([],[3]),([1],[]),([2],[])] Z)) λaa=>zBc Z Z Z (aI.alloc (cs:=[vI (0:Int)]) Z Z) Z (λab=>(jD [([],[3]),([],[3]),([2],[]),([3],[]),([],[3]),([],[3]),([2],[]),([3],[])] Z)) λab=>oG Z Z Z (EY 1 Z Z Z Z Z Z) (λa8=>(jD [([],[3]),([],[3]),([2],[]),([3],[])] Z)) λa8=>bR 13 Z Z<|fK 0 Z Z Z Z Z Z<|aJ ?_;exact iH () (aa,ab) h SF Z
  refine fG 1 Z<|fG 0 Z<|bG Z .nil (hZ 3 Z) (aZ Z Z (aE.fact 0 Z) Z Z j103) aN.z ?_;refine gO Z (uZ (i:=0) Z Z Z Z Z (by decide)) ?_;refine bG Z .nil (hZ 3 Z) (mA Z (aE.fact 0 Z) Z Z Z sF j103) aN.z<|fG 1 Z<|fG 0 Z<|bG Z .nil (hZ 3 Z) (aZ Z Z (aE.fact 0 Z) Z Z J) aN.z ?_;refine gO Z (uZ (i:=1) Z Z Z Z Z (by decide)) ?_;refine bG Z .nil (hZ 3 Z) (mA Z (aE.fact 0 Z) Z Z Z Hk J) aN.z<|zBc Z Z Z (aI.alloc (cs:=[vI (0:Int)]) Z Z) Z (λac=>(jD [([],[3]),([],[3]),([1],[]),([2],[]),([],[3]),([],[3]),([1],[]),([2],[])] Z)) λac=>zBc Z Z Z (aI.alloc (cs:=[vI (0:Int)]) Z Z) Z (λad=>(jD [([],[3]),([],[3]),([2],[]),([3],[]),([],[3]),([],[3]),([2],[]),([3],[])] Z)) λad=>oG Z Z Z (EY 0 Z Z Z Z Z Z) (λa9=>(jD [([],[3]),([],[3]),([2],[]),([3],[])] Z)) λa9=>bR 13 Z Z<|fK 1 Z Z Z Z Z Z<|aJ ?_;exact bW () (ad,ac) h SF (a_.ix [1,0,2,3,4] Z Z) (aB.refl _ _)
 intro a7 g h;refine aP<|aD (gX (cs:=[.tmp 6,.tmp 9,.tmp 8]) (vs:=[vP t,vP u,vP m]) Z) Z<|aG (aI.alloc (cs:=[Value.nilFunc]) Z Z) Z λb9=>fK 0 Z Z Z Z Z Z<|aJ<|aP<|aD (gX (cs:=[.tmp 13]) (vs:=[vP b9]) Z) Z<|aC Z<|aJ<|aP<|aD (gX (cs:=[.tmp 11]) (vs:=[vP g.1]) Z) Z<|aC Z<|aJ<|aP<|aD (gX (cs:=[.tmp 12]) (vs:=[vP g.2]) Z) Z<|aC Z<|aJ<|aK<|aP<|aA Z<|aJ<|aR<|aP<|bS Z<|aC Z<|aJ ?_;refine dK h Z (λh=>?_) λh=>?_
 ·refine aK<|aP<|aA Z<|cR 3 Z<|dQ h λax h=>aD (aZ Z Z (aE.fact 2 Z) Z Z ax) Z<|aD (bV Z (aE.fact 2 Z) Z Z Z cT ax) Z<|cO Z<|aJ ?_;refine dK h Z (λh=>?_) λh=>?_
  ·refine aK<|eJ (λR=>mZ  R=some r) (λR ap=>[(10,vB (R))]) (λR ap=>[]) ?_ ?_
   ·refine JR.start [0,0,3,7,15,15,47,15,239,495,1023,2047,4095,8191,16383,32767,65535] 10 mixedOrders (by decide +kernel) ?_;refine zBe (by exact rfl) ?_;refine bA Z<|bA Z<|KO (A:=Bool) (B:=Unit) (vs:=[Value.func (.func 220) #[] #[vP g.1],vP b9]) (λK=>m_ b d a K=some r) (λK af=>vB (K)) (λK af=>[bM g.2 [vI ((at' d a).2)] 3,bM g.1 [vI ((at' d a).1)] 3,bM u [vI (a)] 3,bM t [j,k] 29]) (λK af=>[Sl bP j b.1,S2 aV k Q b.2,Sl bP P n,Sl aV s d]) Z Z Z (uX (us:=[Value.func (.func 220) #[] #[vP g.1]]) (cs:=[vP b9]) (show aS Tryz.prog 218 from Tryz.call218) Z Z Z) Tryz.func218 Z Tryz.ntmps218 Z Z (λ_ _=>(jD [] Z)) ?_ ?_
    ·refine aP<|aG (aI.box (cs:=[Value.func (.func 220) #[] #[vP g.1]]) Z Z) Z λp=>aC Z<|aJ<|aP<|cR 1 Z<|aD (gX (cs:=[.tmp 2]) (vs:=[vP p]) Z) Z<|qN (A:=Bool) (B:=Unit) (vs:=[Value.func (.func 219) #[] #[vP p],vP t,vP u,vP m]) (λD=>zL b d a D=some r) (λD ag=>vB (D)) (λD ag=>[bM g.2 [vI ((at' d a).2)] 3,bM g.1 [vI ((at' d a).1)] 3,bM u [vI (a)] 3,bM t [j,k] 29]) (λD ag=>[Sl bP j b.1,S2 aV k Q b.2,Sl bP P n,Sl aV s d]) (uX (us:=[Value.func (.func 219) #[] #[vP p]]) (cs:=[vP t,vP u,vP m]) (show aS Tryz.prog 216 from Tryz.call216) Z Z Z) Tryz.func216 Z Tryz.ntmps216 Z Z ?_ ?_
     ·refine aP<|aG (aI.box (cs:=[Value.func (.func 219) #[] #[vP p]]) Z Z) Z λv=>aC Z<|aJ<|aP<|cA 7 Z<|cR 5 Z<|aD (gX (cs:=[.tmp 4,.tmp 3]) (vs:=[vP v,vP m]) Z) Z<|qN (A:=Int) (B:=Unit) (vs:=[Value.agg #[j,k],vI (a),Value.func (.func 217) #[] #[vP v,vP m]]) (λE=>qA b d a E=some r) (λE ah=>vI (E)) (λE ah=>[bM g.2 [vI ((at' d a).2)] 3,bM g.1 [vI ((at' d a).1)] 3,bM u [vI (a)] 3,bM t [j,k] 29]) (λE ah=>[Sl bP j b.1,S2 aV k Q b.2,Sl bP P n,Sl aV s d]) (nT.fn (show aS Tryz.prog 140 from Tryz.call140) Z) Tryz.func140 Z Tryz.ntmps140 Z Z ?_ ?_
      ·refine aP<|aG (aI.box (cs:=[j,k]) Z Z) Z λbe=>aC Z<|aJ<|aK<|eJ (λX=>zM b d a X=some r) (λX aq=>[]) (λX aq=>[bM g.2 [vI ((at' d a).2)] 3,bM g.1 [vI ((at' d a).1)] 3,bM u [vI (a)] 3,bM t [j,k] 29]) ?_ ?_
       ·refine aP<|bY Z<|cR 0 Z<|aA Z<|dQ h λy h=>aD (cV Z Z (aE.fact 1 Z) Z Z y) Z<|aD (cP Z (aE.fact 1 Z) Z Z y) Z<|aD (fF Z (zBd (aE.fact 1 Z) y.1 y.2) Z) Z<|aA Z<|aJ<|aR<|eO (gG U b d a) (λe ar=>[(2,Value.func (.func 217) #[] #[vP v,vP m]),(13,(at' Q a).1),(14,vI ((at' b.2 a).length:Int)),(15,vI (e))]) (λe ar=>[bM v [Value.func (.func 219) #[] #[vP p]] 191,bM p [Value.func (.func 220) #[] #[vP g.1]] 191,bM g.2 [vI ((at' d a).2)] 3,bM g.1 [vI ((at' d a).1)] 3,bM u [vI (a)] 3,bM m [s] 25,bM t [j,k] 29]) (0:Int) () h SF (a_.ix [1,2,4,5,6,7,8] Z Z) ?_;intro a2 e ar h;refine aP<|cO Z<|aJ<|aK ?_;refine dK h Z (λh=>?_) λh=>?_
        ·refine cG<|aK<|aR<|aP<|aA Z<|dQ h λaz h=>aD (aZ Z Z (zBd (aE.fact 1 Z) y.1 y.2) Z Z az) Z<|aD (eM (cs:=[vI ((at' (at' b.2 a) e).1),vI ((at' (at' b.2 a) e).2)]) Z (zBd (aE.fact 1 Z) y.1 y.2) bD Z Z Z Z az) Z<|aG (aI.alloc (cs:=Ni) Z Z) Z λbf=>aC Z<|bK 0 (vs:=[vI ((at' (at' b.2 a) e).1),vI ((at' (at' b.2 a) e).2)]) Z Z Z Z Z Z<|aJ<|aP<|aA Z<|cA 0 Z<|qN (A:=Bool) (B:=Unit) (vs:=[Value.agg #[vI ((at' (at' b.2 a) e).1),vI ((at' (at' b.2 a) e).2)],vP v,vP m]) (λL=>tT b d a e (bH (gG U b d a) a2) L=some r) (λL ai=>vB (L)) (λL ai=>[bM v [Value.func (.func 219) #[] #[vP p]] 191,bM p [Value.func (.func 220) #[] #[vP g.1]] 191,bM g.2 [vI ((at' d a).2)] 3,bM g.1 [vI ((at' d a).1)] 3,bM u [vI (a)] 3,bM m [s] 25,bM t [j,k] 29]) (λL ai=>[Sl bP j b.1,S2 aV k Q b.2,Sl bP P n,Sl aV s d]) (uX (us:=[Value.agg #[vI ((at' (at' b.2 a) e).1),vI ((at' (at' b.2 a) e).2)]]) (cs:=[vP v,vP m]) (show aS Tryz.prog 217 from Tryz.call217) Z Z Z) Tryz.func217 Z Tryz.ntmps217 Z Z ?_ ?_
         ·refine aP<|aG (aI.box (cs:=[vI ((at' (at' b.2 a) e).1),vI ((at' (at' b.2 a) e).2)]) Z Z) Z λbg=>aC Z<|aJ<|aK ?_;refine JR.start [0,0,0,4,14,30,63,127] 6 mixedOrders (by decide +kernel) ?_;refine zBe (by exact rfl) ?_;refine fG 2 Z<|fG 7 Z<|dJ Z<|fG 0 Z<|dQ h λaF h=>bG Z .nil (hZ 3 Z) (aZ Z Z (aE.fact 0 Z) Z Z aF) aN.z<|bG Z .nil (hZ 3 Z) (eM (cs:=[vI ((at' d ((at' (at' b.2 a) e).1)).1),vI ((at' d ((at' (at' b.2 a) e).1)).2)]) Z (aE.fact 0 Z) bD Z Z Z Z aF) aN.z<|bR 6 Z Z<|qN (A:=Bool) (B:=Unit) (vs:=[Value.agg #[vI ((at' d ((at' (at' b.2 a) e).1)).1),vI ((at' d ((at' (at' b.2 a) e).1)).2)],vP p]) (λF=>qB b d a e (bH (gG U b d a) a2) F=some r) (λF aj=>vB (F)) (λF aj=>[bM v [Value.func (.func 219) #[] #[vP p]] 191,bM p [Value.func (.func 220) #[] #[vP g.1]] 191,bM g.2 [vI ((at' d a).2)] 3,bM g.1 [vI ((at' d a).1)] 3,bM u [vI (a)] 3,bM m [s] 25,bM t [j,k] 29]) (λF aj=>[Sl bP j b.1,S2 aV k Q b.2,Sl bP P n,Sl aV s d]) (uX (us:=[Value.agg #[vI ((at' d ((at' (at' b.2 a) e).1)).1),vI ((at' d ((at' (at' b.2 a) e).1)).2)]]) (cs:=[vP p]) (show aS Tryz.prog 219 from Tryz.call219) Z Z Z) Tryz.func219 Z Tryz.ntmps219 Z Z ?_ ?_
          ·refine aP<|aG (aI.box (cs:=[vI ((at' d ((at' (at' b.2 a) e).1)).1),vI ((at' d ((at' (at' b.2 a) e).1)).2)]) Z Z) Z λbh=>aC Z<|aJ<|aP<|cR 4 Z<|cA 0 Z<|dV h λa4 bb h=>aG (i_ (vs:=[Value.agg #[vI ((at' d ((at' (at' b.2 a) e).1)).1),vI ((at' d ((at' (at' b.2 a) e).1)).2)]]) (cs:=[vP g.1]) UT Z (Co U g.1 a4 bb) Z (aB.cons (aE.res 6 Z) .nil) (λ_ _=>rfl)) Z λbm=>aD (kB Z) Z<|aC Z<|aJ<|aU ?_;exact jV ((!a4)) () h (.inl Z) (Cu.r1 Z (RV.tmp Z)) Z (a_.ix [3,4,5,6,7,8,9] Z Z) (aB.refl _ _)
          intro F aj h;unfold qB at h;refine aC Z<|aJ<|aU ?_;exact jV (F) () h (.inl Z) (Cu.r1 Z (RV.tmp Z)) Z (a_.refl _) (aB.refl _ _)
         intro L ai h;refine aJ ?_;refine yW h Z (λ_ h=>?_) λ_ h=>?_
         ·refine aP<|aA Z<|aC Z<|aJ<|aU<|bN<|aH<|aH<|bN<|aH ?_;exact jV (e) () h (.inl Z) (Cu.r1 Z (RV.tmp Z)) Z (a_.ix [2,3,4,6] Z Z) (aB.refl _ _)
         refine dD<|lU<|aQ<|cH Z<|aA Z<|aJ ?_;exact AS (wI .i64 (e+(1:Int))) () h SF Z
        refine fL ?_;exact bW () (()) h SF (a_.ix [2,3,4,6] Z Z) (aB.refl _ _)
       intro X aq h;unfold zM at h;refine aP<|aC Z<|aJ<|aU ?_;exact jV (-1:Int) () h (.inl Z) (Cu.r1 Z (RV.tmp Z)) Z (a_.refl _) (aB.refl _ _)
      intro E ah h;unfold qA at h;refine aD (Bo Z Z) Z<|aC Z<|aJ<|aU ?_;exact jV (decide ((0:Int)<=E)) () h (.inl Z) (Cu.r1 Z (RV.tmp Z)) Z (a_.refl _) (aB.refl _ _)
     intro D ag h;unfold zL at h;refine aD (kB Z) Z<|aC Z<|aJ<|aU ?_;exact jV ((!D)) () h (.inl Z) (Cu.r1 Z (RV.tmp Z)) Z (a_.refl _) (aB.refl _ _)
    intro K af h;unfold m_ at h;refine gO Z (gN Z) ?_;refine JR.guard (by exact rfl) (by exact rfl) (by exact rfl) (λT=>?_) (λT=>?_)
    ·have h:=Kx T h;refine fN Z (a_.cons 1 Z .nil) .nil (d_ 0 Z Z Z Z Z) (Jt Z)<|fN Z .nil .nil (eI Z Z Z Z Z) (Jt Z)<|fN Z (a_.cons 3 Z .nil) .nil (d_ 0 Z Z Z Z Z) (Jt Z)<|fN Z (a_.cons 2 Z .nil) .nil (d_ 0 Z Z Z Z Z) (Jt Z)<|dQ h λay h=>fN Z .nil (hZ 0 Z) (aZ Z Z (aE.fact 0 Z) Z Z ay) (Jt Z)<|fN Z .nil (hZ 0 Z) (bV Z (aE.fact 0 Z) Z Z Z cT ay) (Jt Z)<|bR 10 Z Z<|aW Z (QM Z Z) Z<|eK Z<|aA Z ?_;refine Eb h Z (λ_ h=>?_) λ_ h=>?_
     ·refine aW Z (d_ 0 Z Z Z Z Z) Z<|aW Z (QM Z Z) Z<|eK Z<|aC Z<|aJ ?_;exact bW (decide (((at' d a).2)=(0:Int))) () h SF .nil (aB.refl _ _)
     refine aL Z<|aL Z<|fY Z<|aC Z<|aJ ?_;exact bW (false) () h SF .nil (aB.refl _ _)
    have h:=Ju T h;refine bL Z Z Z Z<|bL Z Z Z Z<|bL Z Z Z Z<|bL Z Z Z Z<|bL Z Z Z Z<|bL Z Z Z Z<|bR 10 Z Z<|aL Z<|fY Z<|aA Z<|aL Z<|aL Z<|fY Z<|aC Z<|aJ ?_;exact bW (false) () h SF .nil (aB.refl _ _)
   intro R ap h;unfold mZ at h;refine aU<|aH<|bN<|aH ?_;cases h;exact kY Z
  refine cG<|aK<|eJ (λS=>nA  S=some r) (λS au=>[(10,vB (S))]) (λS au=>[]) ?_ ?_
  ·refine JR.start [0,0,3,7,15,31,63,127,255,255,255,1279,255,7423,15615,255,255,98559,229631,523519,1047807,2096383,4194047,8388351,16777215,33554431,67108863] 24 mixedOrders (by decide +kernel) ?_;refine zBe (by exact rfl) ?_;refine bA Z<|bA Z<|KO (A:=Bool) (B:=Unit) (vs:=[Value.func (.func 220) #[] #[vP g.1],vP b9]) (λM=>oS U b n d a M=some r) (λM ak=>vB (M)) (λM ak=>[bM g.2 [vI ((at' d a).2)] 3,bM u [vI (a)] 3,bM m [s] 25,bM t [j,k] 29]) (λM ak=>[Sl bP j b.1,S2 aV k Q b.2,Sl bP P n,Sl aV s d]) Z Z Z (uX (us:=[Value.func (.func 220) #[] #[vP g.1]]) (cs:=[vP b9]) (show aS Tryz.prog 218 from Tryz.call218) Z Z Z) Tryz.func218 Z Tryz.ntmps218 Z Z (λ_ _=>(jD [] Z)) ?_ ?_
   ·refine aP<|aG (aI.box (cs:=[Value.func (.func 220) #[] #[vP g.1]]) Z Z) Z λq=>aC Z<|aJ<|aP<|cR 1 Z<|aD (gX (cs:=[.tmp 2]) (vs:=[vP q]) Z) Z<|qN (A:=Bool) (B:=Unit) (vs:=[Value.func (.func 219) #[] #[vP q],vP t,vP u,vP m]) (λG=>yH U b n d a G=some r) (λG al=>vB (G)) (λG al=>[bM g.2 [vI ((at' d a).2)] 3,bM u [vI (a)] 3,bM m [s] 25,bM t [j,k] 29]) (λG al=>[Sl bP j b.1,S2 aV k Q b.2,Sl bP P n,Sl aV s d]) (uX (us:=[Value.func (.func 219) #[] #[vP q]]) (cs:=[vP t,vP u,vP m]) (show aS Tryz.prog 216 from Tryz.call216) Z Z Z) Tryz.func216 Z Tryz.ntmps216 Z Z ?_ ?_
    ·refine aP<|aG (aI.box (cs:=[Value.func (.func 219) #[] #[vP q]]) Z Z) Z λw=>aC Z<|aJ<|aP<|cA 7 Z<|cR 5 Z<|aD (gX (cs:=[.tmp 4,.tmp 3]) (vs:=[vP w,vP m]) Z) Z<|qN (A:=Int) (B:=Unit) (vs:=[Value.agg #[j,k],vI (a),Value.func (.func 217) #[] #[vP w,vP m]]) (λH=>oT U b n d a H=some r) (λH am=>vI (H)) (λH am=>[bM g.2 [vI ((at' d a).2)] 3,bM u [vI (a)] 3,bM m [s] 25,bM t [j,k] 29]) (λH am=>[Sl bP j b.1,S2 aV k Q b.2,Sl bP P n,Sl aV s d]) (nT.fn (show aS Tryz.prog 140 from Tryz.call140) Z) Tryz.func140 Z Tryz.ntmps140 Z Z ?_ ?_
     ·refine aP<|aG (aI.box (cs:=[j,k]) Z Z) Z λbi=>aC Z<|aJ<|aK<|eJ (λY=>yI U b n d a Y=some r) (λY av=>[]) (λY av=>[bM g.2 [vI ((at' d a).2)] 3,bM u [vI (a)] 3,bM m [s] 25,bM t [j,k] 29]) ?_ ?_
      ·refine aP<|bY Z<|cR 0 Z<|aA Z<|dQ h λC h=>aD (cV Z Z (aE.fact 1 Z) Z Z C) Z<|aD (cP Z (aE.fact 1 Z) Z Z C) Z<|aD (fF Z (zBd (aE.fact 1 Z) C.1 C.2) Z) Z<|aA Z<|aJ<|aR<|eO (gH U b n d a) (λf aw=>[(2,Value.func (.func 217) #[] #[vP w,vP m]),(13,(at' Q a).1),(14,vI ((at' b.2 a).length:Int)),(15,vI (f))]) (λf aw=>[bM w [Value.func (.func 219) #[] #[vP q]] 191,bM q [Value.func (.func 220) #[] #[vP g.1]] 191,bM g.2 [vI ((at' d a).2)] 3,bM g.1 [vI ((at' d a).1)] 3,bM u [vI (a)] 3,bM m [s] 25,bM t [j,k] 29]) (0:Int) () h SF (a_.ix [1,2,4,5,6,7,8] Z Z) ?_;intro a3 f aw h;refine aP<|cO Z<|aJ<|aK ?_;refine dK h Z (λh=>?_) λh=>?_
       ·refine cG<|aK<|aR<|aP<|aA Z<|dQ h λa0 h=>aD (aZ Z Z (zBd (aE.fact 1 Z) C.1 C.2) Z Z a0) Z<|aD (eM (cs:=[vI ((at' (at' b.2 a) f).1),vI ((at' (at' b.2 a) f).2)]) Z (zBd (aE.fact 1 Z) C.1 C.2) bD Z Z Z Z a0) Z<|aG (aI.alloc (cs:=Ni) Z Z) Z λbj=>aC Z<|bK 0 (vs:=[vI ((at' (at' b.2 a) f).1),vI ((at' (at' b.2 a) f).2)]) Z Z Z Z Z Z<|aJ<|aP<|aA Z<|cA 0 Z<|qN (A:=Bool) (B:=Unit) (vs:=[Value.agg #[vI ((at' (at' b.2 a) f).1),vI ((at' (at' b.2 a) f).2)],vP w,vP m]) (λN=>sI U b n d a f (bH (gH U b n d a) a3) N=some r) (λN an=>vB (N)) (λN an=>[bM w [Value.func (.func 219) #[] #[vP q]] 191,bM q [Value.func (.func 220) #[] #[vP g.1]] 191,bM g.2 [vI ((at' d a).2)] 3,bM g.1 [vI ((at' d a).1)] 3,bM u [vI (a)] 3,bM m [s] 25,bM t [j,k] 29]) (λN an=>[Sl bP j b.1,S2 aV k Q b.2,Sl bP P n,Sl aV s d]) (uX (us:=[Value.agg #[vI ((at' (at' b.2 a) f).1),vI ((at' (at' b.2 a) f).2)]]) (cs:=[vP w,vP m]) (show aS Tryz.prog 217 from Tryz.call217) Z Z Z) Tryz.func217 Z Tryz.ntmps217 Z Z ?_ ?_
        ·refine aP<|aG (aI.box (cs:=[vI ((at' (at' b.2 a) f).1),vI ((at' (at' b.2 a) f).2)]) Z Z) Z λbk=>aC Z<|aJ<|aK ?_;refine JR.start [0,0,0,4,14,30,63,127] 6 mixedOrders (by decide +kernel) ?_;refine zBe (by exact rfl) ?_;refine fG 2 Z<|fG 7 Z<|dJ Z<|fG 0 Z<|dQ h λa1 h=>bG Z .nil (hZ 3 Z) (aZ Z Z (aE.fact 0 Z) Z Z a1) aN.z<|bG Z .nil (hZ 3 Z) (eM (cs:=[vI ((at' d ((at' (at' b.2 a) f).1)).1),vI ((at' d ((at' (at' b.2 a) f).1)).2)]) Z (aE.fact 0 Z) bD Z Z Z Z a1) aN.z<|bR 6 Z Z<|qN (A:=Bool) (B:=Unit) (vs:=[Value.agg #[vI ((at' d ((at' (at' b.2 a) f).1)).1),vI ((at' d ((at' (at' b.2 a) f).1)).2)],vP q]) (λI=>oU U b n d a f (bH (gH U b n d a) a3) I=some r) (λI ao=>vB (I)) (λI ao=>[bM w [Value.func (.func 219) #[] #[vP q]] 191,bM q [Value.func (.func 220) #[] #[vP g.1]] 191,bM g.2 [vI ((at' d a).2)] 3,bM g.1 [vI ((at' d a).1)] 3,bM u [vI (a)] 3,bM m [s] 25,bM t [j,k] 29]) (λI ao=>[Sl bP j b.1,S2 aV k Q b.2,Sl bP P n,Sl aV s d]) (uX (us:=[Value.agg #[vI ((at' d ((at' (at' b.2 a) f).1)).1),vI ((at' d ((at' (at' b.2 a) f).1)).2)]]) (cs:=[vP q]) (show aS Tryz.prog 219 from Tryz.call219) Z Z Z) Tryz.func219 Z Tryz.ntmps219 Z Z ?_ ?_
         ·refine aP<|aG (aI.box (cs:=[vI ((at' d ((at' (at' b.2 a) f).1)).1),vI ((at' d ((at' (at' b.2 a) f).1)).2)]) Z Z) Z λbl=>aC Z<|aJ<|aP<|cR 4 Z<|cA 0 Z<|dV h λae a6 h=>aG (i_ (vs:=[Value.agg #[vI ((at' d ((at' (at' b.2 a) f).1)).1),vI ((at' d ((at' (at' b.2 a) f).1)).2)]]) (cs:=[vP g.1]) UT Z (Co U g.1 ae a6) Z (aB.cons (aE.res 6 Z) .nil) (λ_ _=>rfl)) Z λbd=>aD (kB Z) Z<|aC Z<|aJ<|aU ?_;exact jV ((!ae)) () h (.inl Z) (Cu.r1 Z (RV.tmp Z)) Z (a_.ix [3,4,5,6,7,8,9] Z Z) (aB.refl _ _)
         intro I ao h;unfold oU at h;refine aC Z<|aJ<|aU ?_;exact jV (I) () h (.inl Z) (Cu.r1 Z (RV.tmp Z)) Z (a_.refl _) (aB.refl _ _)
        intro N an h;refine aJ ?_;refine yW h Z (λ_ h=>?_) λ_ h=>?_
        ·refine aP<|aA Z<|aC Z<|aJ<|aU<|bN<|aH<|aH<|bN<|aH ?_;exact jV (f) () h (.inl Z) (Cu.r1 Z (RV.tmp Z)) Z (a_.ix [2,4,5,6] Z Z) (aB.refl _ _)
        refine dD<|lU<|aQ<|cH Z<|aA Z<|aJ ?_;exact AS (wI .i64 (f+(1:Int))) () h SF Z
       refine fL ?_;exact bW () (()) h SF (a_.ix [2,4,5,6] Z Z) (aB.refl _ _)
      intro Y av h;unfold yI at h;refine aP<|aC Z<|aJ<|aU ?_;exact jV (-1:Int) () h (.inl Z) (Cu.r1 Z (RV.tmp Z)) Z (a_.refl _) (aB.refl _ _)
     intro H am h;unfold oT at h;refine aD (Bo Z Z) Z<|aC Z<|aJ<|aU ?_;exact jV (decide ((0:Int)<=H)) () h (.inl Z) (Cu.r1 Z (RV.tmp Z)) Z (a_.refl _) (aB.refl _ _)
    intro G al h;unfold yH at h;refine aD (kB Z) Z<|aC Z<|aJ<|aU ?_;exact jV ((!G)) () h (.inl Z) (Cu.r1 Z (RV.tmp Z)) Z (a_.refl _) (aB.refl _ _)
   intro M ak h;unfold oS at h;refine gO Z (gN Z) ?_;refine JR.guard (by exact rfl) (by exact rfl) (by exact rfl) (λV=>?_) (λV=>?_)
   ·have h:=Kx V h;refine fN Z (a_.cons 0 Z .nil) .nil (d_ 0 Z Z Z Z Z) (Jt Z)<|fN Z .nil .nil (Bo Z Z) (Jt Z)<|gO Z (KS Z Z)<|gO Z (gN Z) ?_;refine Dj (by exact rfl) (by exact rfl) (by exact rfl) (λW=>?_) (λW=>?_)
    ·have h:=Kx W h;refine fN Z .nil .nil (gN Z) (Jt Z)<|fN Z (a_.cons 2 Z .nil) .nil (d_ 0 Z Z Z Z Z) (Jt Z)<|fN Z .nil .nil (eI Z Z Z Z Z) (Jt Z)<|fN Z (a_.cons 3 Z .nil) .nil (d_ 0 Z Z Z Z Z) (Jt Z)<|fN Z (a_.cons 1 Z .nil) .nil (d_ 0 Z Z Z Z Z) (Jt Z)<|dQ h λO h=>fN Z .nil (hZ 1 Z) (cV Z Z (aE.fact 0 Z) Z Z O) (Jt Z)<|fN Z .nil (hZ 1 Z) (cP Z (aE.fact 0 Z) Z Z O) (Jt Z)<|fN Z .nil .nil (gN Z) (Jt Z)<|fN Z (a_.cons 1 Z .nil) .nil (d_ 0 Z Z Z Z Z) (Jt Z)<|dQ h λaM h=>fN Z .nil (hZ 2 Z) (aZ Z Z (aE.fact 0 Z) Z Z aM) (Jt Z)<|fN Z .nil (hZ 2 Z) (bV Z (aE.fact 0 Z) Z Z Z cT aM) (Jt Z)<|dQ h λaT h=>fN Z .nil (hZ 1 Z) (aZ Z Z (zBd (aE.fact 0 Z) O.1 O.2) Z Z aT) (Jt Z)<|fN Z .nil .nil (n_ Z Z Z Z Z) (Jt Z)<|fN Z .nil (hZ 1 Z) (mA Z (zBd (aE.fact 0 Z) O.1 O.2) Z Z Z sF aT) (Jt Z)<|dQ h λaX h=>fN Z .nil (hZ 3 Z) (aZ Z Z (aE.fact 0 Z) Z Z aX) (Jt Z)<|fN Z .nil (hZ 3 Z) (eM (cs:=[vI ((at' d ((at' (at' b.2 a) (at' n a)).1)).1),vI ((at' d ((at' (at' b.2 a) (at' n a)).1)).2)]) Z (aE.fact 0 Z) bD Z Z Z Z aX) (Jt Z)<|bR 24 Z Z<|dV h λa5 bc h=>nN Z (i_ (vs:=[Value.agg #[vI ((at' d ((at' (at' b.2 a) (at' n a)).1)).1),vI ((at' d ((at' (at' b.2 a) (at' n a)).1)).2)]]) (cs:=[vP g.2]) abU Z (HF U g.2 a5 bc) Z (aB.cons (aE.res 0 Z) .nil) (λ_ _=>rfl)) Z λbn=>eK Z<|aC Z<|aJ ?_;exact bW (a5) () h SF .nil (aB.refl _ _)
    have h:=Xy W h;refine bL Z Z Z Z<|bL Z Z Z Z<|bL Z Z Z Z<|bL Z Z Z Z<|bL Z Z Z Z<|bL Z Z Z Z<|bL Z Z Z Z<|bL Z Z Z Z<|bL Z Z Z Z<|bL Z Z Z Z<|bL Z Z Z Z<|bL Z Z Z Z<|bL Z Z Z Z<|bL Z Z Z Z<|bL Z Z Z Z<|bL Z Z Z Z<|bR 24 Z Z<|aL Z<|fY Z<|aC Z<|aJ ?_;exact bW (false) () h SF .nil (aB.refl _ _)
   have h:=Ju V h;refine bL Z Z Z Z<|bL Z Z Z Z<|gO Z (KR Z Z)<|gO Z (gN Z)<|bL Z Z Z Z<|bL Z Z Z Z<|bL Z Z Z Z<|bL Z Z Z Z<|bL Z Z Z Z<|bL Z Z Z Z<|bL Z Z Z Z<|bL Z Z Z Z<|bL Z Z Z Z<|bL Z Z Z Z<|bL Z Z Z Z<|bL Z Z Z Z<|bL Z Z Z Z<|bL Z Z Z Z<|bL Z Z Z Z<|bL Z Z Z Z<|bR 24 Z Z<|aL Z<|fY Z<|aC Z<|aJ ?_;exact bW (false) () h SF .nil (aB.refl _ _)
  intro S au h;unfold nA at h;refine aU<|bN<|aH ?_;cases h;exact kY Z
 cases h
def p_ (U:Nat) (d:Int) (b:b_) (e:aO) (f:cC) (g:Int) (c:Bool):Option Bool:=
 if c=true then(some (false))else(Option.bind (lX U d ((b.1,b.2)) e f g) λa=>(some (a)))
def mY (U:Nat) (d:Int) (a:b_) (c:aO) (e:cC) (b:Int) (g:Bool):Option Bool:=
 if g=true then(some (false))else(if(c.length:Int)≠(a.1.length:Int)then(p_ U d a c e b (true))else(if(e.length:Int)≠(a.1.length:Int)then(p_ U d a c e b (true))else(ck (0<=b∧b<(c.length:Int)) (Option.bind (nE U d ((a.1,a.2)) b (at' c b)) λf=>(p_ U d a c e b ((!f)))))))
def lW (U:Nat) (c:Int) (a:b_) (d:aO) (e:cC) (b:Int):Option Bool:=
 Option.bind (fJ U ((a.1,a.2))) λf=>(if(!f)=true then(mY U c a d e b (true))else(Option.bind (uK U c) λg=>(if(!g)=true then(mY U c a d e b (true))else(if b<(0:Int)then(mY U c a d e b (true))else(mY U c a d e b (decide ((a.1.length:Int)<=b)))))))
theorem aeZ:aS Tryz.prog 95:=Tryz.call95
theorem JL (U:Nat) {j:Int} {k:b_} {u:aO} {v:cC} {i:Int} (f:Value)  (g:Value)  (w:jO)  (q:Value)  (s:Value) (r:Bool) (h:lW U j k u v i=some r):
  aY Tryz.prog 95 #[vI (j),Value.agg #[f,g],q,s,vI (i)] [Sl bP f k.1,S2 aV g w k.2,Sl bP q u,Sl aV s v] (λx:Unit=>vB (r)) (λx l=>l) (λ_ l=>l):=by
 refine aY.of Tryz.func95 Z Tryz.ntmps95 Z λc=>?_;refine aP<|aG (aI.box (cs:=[f,g]) Z Z) Z λt=>aC Z<|aJ<|aK<|aK<|eJ (λm=>mY U j k u v i m=some r) (λm G=>[(0,vI (j)),(2,q),(3,s),(4,vI (i)),(6,vP t),(29,vB (m))]) (λm G=>[bM t [f,g] 29]) ?_ ?_
 ·refine aQ<|cA 0 Z<|dV h λA E h=>aG (zBb Jg (tI U f g w A E) Z (kA [0,1] Z)) Z λK=>aD (kB Z) Z<|aA Z ?_;refine yX (by exact rfl) (by exact rfl) (λd=>?_) (λd=>?_)
  ·have h:=Kx d h;refine aL Z<|aL Z<|aL Z<|eK Z<|aA Z<|aL Z<|aL Z<|eK Z<|aA Z<|aL Z<|aL Z<|aL Z<|aL Z<|aL Z<|eK Z<|aJ ?_;exact iH (true) () h SF Z
  have h:=Ju d h;refine eG Z<|dV h λB F h=>nN Z (zBb Yu (FM U  B F) Z .nil) Z λL=>aW Z (kB Z) Z<|fY Z<|aA Z ?_;refine yX (by exact rfl) (by exact rfl) (λe=>?_) (λe=>?_)
  ·have h:=Kx e h;refine aL Z<|aL Z<|eK Z<|aA Z<|aL Z<|aL Z<|aL Z<|aL Z<|aL Z<|eK Z<|aJ ?_;exact iH (true) () h SF Z
  have h:=Ju e h;refine eG Z<|aW Z (GN Z Z) Z<|fY Z<|aA Z ?_;refine Eb h Z (λ_ h=>?_) λ_ h=>?_
  ·refine aL Z<|aL Z<|aL Z<|aL Z<|aL Z<|eK Z<|aJ ?_;exact iH (true) () h SF Z
  refine eG Z<|aW Z (eI Z Z Z Z Z) Z<|aW Z (d_ 0 Z Z Z Z Z) Z<|aW Z (fF Z (aE.fact 0 Z) Z) Z<|aW Z (Bo Z Z) Z<|fY Z<|aJ ?_;exact iH (decide ((k.1.length:Int)<=i)) () h SF Z
 intro m G h;refine yW h Z (λ_ h=>?_) λ_ h=>?_
 ·refine aP<|aC Z<|aJ<|aU<|aH ?_;cases h;exact sB Z
 refine cG<|aK<|aK<|eJ (λn=>p_ U j k u v i n=some r) (λn H=>[(0,vI (j)),(2,q),(3,s),(4,vI (i)),(6,vP t),(54,vB (n))]) (λn H=>[bM t [f,g] 29]) ?_ ?_
 ·refine JR.start [0,1,0,4,12,31,63,127,255,127,639,1663,4095,8191,16383,32767,32767,32767,32767,32767,819199,1867775,4194303,8388607,16777215] 22 mixedOrders (by decide +kernel) ?_;refine zBe (by exact rfl) ?_;refine bA Z<|bG Z .nil (hZ 2 Z) (fF Z (aE.fact 0 Z) Z) aN.z<|dJ Z<|fG 0 Z<|bG Z .nil (hZ 0 Z) (fF Z (aE.fact 0 Z) Z) aN.z<|gO Z (Bq Z Z)<|bA Z ?_;refine Dj (by exact rfl) (by exact rfl) (by exact rfl) (λa=>?_) (λa=>?_)
  ·have h:=Kx a h;refine bL Z Z Z Z<|bL Z Z Z Z<|bL Z Z Z Z<|bL Z Z Z Z<|bL Z Z Z Z<|bL Z Z Z Z<|gO Z (KS Z Z)<|bA Z<|bL Z Z Z Z<|bL Z Z Z Z<|bL Z Z Z Z<|bL Z Z Z Z<|bL Z Z Z Z<|bL Z Z Z Z<|bL Z Z Z Z<|bR 22 Z Z<|aL Z<|aL Z<|eK Z<|aJ ?_;exact iH (true) () h SF Z
  have h:=Xy a h;refine fN Z .nil .nil (gN Z) aN.z<|fN Z .nil (hZ 3 Z) (fF Z (aE.fact 0 Z) Z) aN.z<|fN Z .nil .nil (eI Z Z Z Z Z) aN.z<|fN Z (a_.cons 0 Z .nil) .nil (d_ 0 Z Z Z Z Z) aN.z<|fN Z .nil (hZ 0 Z) (fF Z (aE.fact 0 Z) Z) aN.z<|fN Z .nil .nil (Bq Z Z) aN.z<|gO Z (KR Z Z)<|bA Z ?_;refine Dj (by exact rfl) (by exact rfl) (by exact rfl) (λb=>?_) (λb=>?_)
  ·have h:=Kx b h;refine bL Z Z Z Z<|bL Z Z Z Z<|bL Z Z Z Z<|bL Z Z Z Z<|bL Z Z Z Z<|bL Z Z Z Z<|bL Z Z Z Z<|bR 22 Z Z<|aL Z<|aL Z<|eK Z<|aJ ?_;exact iH (true) () h SF Z
  have h:=Xy b h;refine fN Z .nil .nil (gN Z) aN.z<|fN Z (a_.cons 0 Z .nil) .nil (jX 0 Z Z Z Z) aN.z<|fN Z .nil .nil (gN Z) aN.z<|fN Z .nil .nil (gN Z) aN.z<|fN Z .nil .nil (gN Z) aN.z<|dQ h λo h=>fN Z .nil (hZ 2 Z) (aZ Z Z (aE.fact 0 Z) Z Z o) aN.z<|fN Z .nil (hZ 2 Z) (bV Z (aE.fact 0 Z) Z Z Z cT o) aN.z<|bR 22 Z Z<|dV h λp D h=>nN Z (zBb UO (EH U f g w p D) Z (kA [0,1] Z)) Z λJ=>aW Z (kB Z) Z<|fY Z<|aJ ?_;exact iH ((!p)) () h SF Z
 intro n H h;refine yW h Z (λ_ h=>?_) λ_ h=>?_
 ·refine aP<|aC Z<|aJ<|aU<|aH ?_;cases h;exact sB Z
 refine cG<|aP<|aA Z<|cA 0 Z<|aA Z<|aA Z<|aA Z<|dV h λy C h=>aG (zBb abK (JM U f g w q s y C) Z (kA [0,1,2,3] Z)) Z λI=>aC Z<|aJ<|aU ?_;cases h;exact sB Z
def qY  (a:Int):Option (Int):=
 some (a)
def nL (b:eC) (a:gW->Option (Int)) (c:Int):Option (Int):=
 a (c,(wI .i64 (b.2+(1:Int))))
def kW (U:Nat) (e:Int) (c:b_) (f:aO) (g:cC) (a:eC) (b:gW->Option (Int)):Option (Int):=
 if a.2<(c.1.length:Int)then(Option.bind (lW U e ((c.1,c.2)) f g a.2) λd=>(if(!d)=true then(ck (0<=a.2) (nL a b (Nk .u32 a.1 (CZ .u32 (1:Int) a.2))))else(nL a b (a.1))))else(qY  (a.1))
def j_ (U:Nat) (b:Int) (a:b_) (c:aO) (d:cC):Option (Int):=
 Option.bind (fJ U ((a.1,a.2))) λe=>(if(!e)=true then(some (0:Int))else(bH (kW U b a c d) U ((0:Int),(0:Int))))
theorem Yq:aS Tryz.prog 16:=Tryz.call16
theorem Cn (U:Nat) {g:Int} {d:b_} {p:aO} {q:cC} (e:Value)  (f:Value)  (w:jO)  (m:Value)  (n:Value) (r:Int) (h:j_ U g d p q=some r):
  aY Tryz.prog 16 #[vI (g),Value.agg #[e,f],m,n] [Sl bP e d.1,S2 aV f w d.2,Sl bP m p,Sl aV n q] (λx:Unit=>vU (r)) (λx l=>l) (λ_ l=>l):=by
 refine aY.of Tryz.func16 Z Tryz.ntmps16 Z λc=>?_;refine aP<|aG (aI.box (cs:=[e,f]) Z Z) Z λo=>aC Z<|aJ<|aK<|aP<|cA 0 Z<|dV h λz A h=>aG (zBb Jg (tI U e f w z A) Z (kA [0,1] Z)) Z λC=>aD (kB Z) Z<|aJ ?_;refine yW h Z (λ_ h=>?_) λ_ h=>?_
 ·refine aP<|aC Z<|aJ<|aU<|aH ?_;cases h;exact sB Z
 refine cG<|aP<|aC Z<|aJ<|aK<|eJ (λi=>qY  i=some r) (λi y=>[(9,vU (i))]) (λi y=>[]) ?_ ?_
 ·refine aP<|bY Z<|cR 0 Z<|gS (aE.fact 0 Z) Z<|aA Z<|aJ<|aR<|eO (kW U g d p q) (λa j=>[(0,vI (g)),(2,m),(3,n),(5,vP o),(9,vU (a.1)),(16,vI (d.1.length:Int)),(17,vI (a.2))]) (λa j=>[bM o [e,f] 29]) ((0:Int),(0:Int)) () h SF (a_.refl _) ?_;intro t a j h;refine aP<|cO Z<|aJ<|aK ?_;refine dK h Z (λh=>?_) λh=>?_
  ·refine cG<|aK<|eJ (λb=>nL a (bH (kW U g d p q) t) b=some r) (λb k=>[(0,vI (g)),(2,m),(3,n),(5,vP o),(9,vU (b)),(16,vI (d.1.length:Int)),(17,vI (a.2))]) (λb k=>[bM o [e,f] 29]) ?_ ?_
   ·refine aR<|aP<|aA Z<|aC Z<|aJ<|aP<|aA Z<|cA 0 Z<|aA Z<|aA Z<|aA Z<|dV h λu v h=>aG (zBb aeZ (JL U e f w m n u v) Z (kA [0,1,2,3] Z)) Z λB=>aD (kB Z) Z<|aJ ?_;refine yW h Z (λ_ h=>?_) λ_ h=>?_
    ·refine aQ<|aA Z<|aA Z<|dQ h λs h=>aD (NL Z Z s) Z<|aD (Yg Z Z) Z<|aC Z<|eV<|lU ?_;exact iH (Nk .u32 a.1 (CZ .u32 (1:Int) a.2)) () h SF Z
    refine dD<|lU ?_;exact iH (a.1) () h SF Z
   intro b k h;unfold nL at h;refine aQ<|cH Z<|aA Z<|aJ ?_;exact AS (b,(wI .i64 (a.2+(1:Int)))) () h SF Z
  refine fL ?_;exact bW (a.1) () h SF .nil (aB.refl _ _)
 intro i y h;unfold qY at h;refine aP<|aA Z<|aC Z<|aJ<|aU ?_;cases h;exact kY Z
end Go.Proofs.YtcnnfkapmjhnaaaGreatDoor
namespace Go.Proofs.YtcnnfkapmjhnaaaGreatDoor
open Go Go.Sx
abbrev aja (g:GR) (l:cC) (v i:Nat):eC:=at' l (fU (row g v) i).1
abbrev lab (l:cC) (v:Nat):eC:=at' l (v:Int)
structure HP (g:GR) (st:aO) (l:cC) (v:Nat):Prop where
 V:VG g
 hv:v<g.2.length
 hs:st.length=g.2.length
 hl:l.length=g.2.length
theorem HP.nb {g:GR} {b:aO} {l:cC} {v:Nat} (h:HP g b l v) {i:Nat} (a:i<(row g v).length):0<=(fU (row g v) i).1∧(fU (row g v) i).1<(l.length:Int):=by
 have:=((h.V.node v h.hv).links i a).1;have:=h.hl;omega
theorem HP.deg {g:GR} {st:aO} {l:cC} {v:Nat} (h:HP g st l v):(row g v).length<24:=by
 have:=(h.V.node v h.hv).deg;have:=h.V.n24;omega
section
variable {g:GR} {st:List Int} {l:List (Int×Int)} {v:Nat}
abbrev Hl (g:GR) (l:List (Int×Int)) (v i:Nat):Prop:=(aja g l v i).1=(lab l v).1
theorem agL (h:HP g st l v):((∀i,i<(row g v).length->Hl g l v i)->bH (gG 1000 g l v) 1000 0=m_ g l v true)∧(¬(∀i,i<(row g v).length->Hl g l v i)->bH (gG 1000 g l v) 1000 0=some false):=by
 have f:=h.deg;have j:(at' g.2 (v:Int)).length=(row g v).length:=rfl;refine Py (row g v).length (Hl g l v) (λk c a b=> ?_) (λk c a b=> ?_) (λc=> ?_) 1000 (by omega)
 ·have d:=h.nb a;have e:(at' (at' g.2 (v:Int)) (k:Int)).1=(fU (row g v) k).1:=rfl;unfold gG iR;rw[if_pos (by omega),cK (by omega),cK (by omega),bB Z,zA9 b];unfold qB tT;rw[if_neg (by simp),wr (by omega) (by omega)]
 ·have d:=h.nb a;have e:(at' (at' g.2 (v:Int)) (k:Int)).1=(fU (row g v) k).1:=rfl;unfold gG iR;rw[if_pos (by omega),cK (by omega),cK (by omega),bB Z,zA8 b];unfold qB tT qA;rw[if_pos (by rfl),zA9 (by omega)];rfl
 ·unfold gG;rw[if_neg (by omega)];rfl
theorem agM (h:HP g st l v):((∀i,i<(row g v).length->Hl g l v i)->bH (gH 1000 g st l v) 1000 0=oS 1000 g st l v true)∧(¬(∀i,i<(row g v).length->Hl g l v i)->bH (gH 1000 g st l v) 1000 0=some false):=by
 have f:=h.deg;have j:(at' g.2 (v:Int)).length=(row g v).length:=rfl;refine Py (row g v).length (Hl g l v) (λk c a b=> ?_) (λk c a b=> ?_) (λc=> ?_) 1000 (by omega)
 ·have d:=h.nb a;have e:(at' (at' g.2 (v:Int)) (k:Int)).1=(fU (row g v) k).1:=rfl;unfold gH iR;rw[if_pos (by omega),cK (by omega),cK (by omega),bB Z,zA9 b];unfold oU sI;rw[if_neg (by simp),wr (by omega) (by omega)]
 ·have d:=h.nb a;have e:(at' (at' g.2 (v:Int)) (k:Int)).1=(fU (row g v) k).1:=rfl;unfold gH iR;rw[if_pos (by omega),cK (by omega),cK (by omega),bB Z,zA8 b];unfold oU sI oT;rw[if_pos (by rfl),zA9 (by omega)];rfl
 ·unfold gH;rw[if_neg (by omega)];rfl
theorem Ub (h:HP g st l v) (a:Int):lX 1000 a g st l (v:Int)=tS 1000 a g st l (v:Int) ():=by
 have:=h.hl;have:=h.hv;unfold lX;rw[cK (by omega),cK (by omega)]
theorem afW (h:HP g st l v):m_ g l v true=some (decide ((lab l v).1=at' g.1 (v:Int)∧(lab l v).2=0)):=by
 have e:=h.hv;have c:=h.V.len;unfold m_ mZ;rw[if_pos Z,cK (by omega)];by_cases a:(at' l (v:Int)).1=at' g.1 (v:Int)
 ·rw[if_pos a];congr 1;exact decide_eq_decide.2 ⟨λb=>⟨a,b⟩,λb=>b.2⟩
 ·rw[if_neg a,zA8 (λd=>a d.1)]
theorem abk (h:HP g st l v) (m:tP 1 g v (at' st (v:Int))):∃b:Bool,lX 1000 1 g st l (v:Int)=some b∧(b=true↔SU g st l v):=by
 have u:=h.hs;have s:=h.hl;have w:=h.hv;have x:(at' g.2 (v:Int)).length=(row g v).length:=rfl;rw[tP,if_pos (.inl Z)]at m;have o:lX 1000 1 g st l (v:Int)=if at' st (v:Int)<0 then bH (gG 1000 g l v) 1000 0 else bH (gH 1000 g st l v) 1000 0:=by
  rw[Ub h];unfold tS;rw[if_pos Z,cK (by omega),cK (by omega),cK (by omega)]
 rw[o];unfold SU;by_cases a:∀i,i<(row g v).length->Hl g l v i
 rotate_left
 ·rw[(agL h).2 a,(agM h).2 a];exact⟨false,by split<;>rfl,⟨λq=>(by cases q),λq=>absurd q.1 a⟩⟩
 rw[(agL h).1 a,(agM h).1 a,afW h];by_cases d:at' st (v:Int)<0
 ·rw[if_pos d,if_pos d];exact⟨_,rfl,by rw[zA1];exact⟨λq=>⟨a,q⟩,λq=>q.2⟩⟩
 rw[if_neg d,if_neg d];unfold oS nA;rw[if_pos Z];obtain⟨k,n⟩:∃k:Nat,at' st (v:Int)=k:=⟨(at' st (v:Int)).toNat,by omega⟩
 have c:k<(row g v).length:=by omega
 have t:=h.nb c;have y:(at' (at' g.2 (v:Int)) (k:Int)).1=(fU (row g v) k).1:=rfl;by_cases e:(1:Int)<=(at' l (v:Int)).2
 ·rw[if_pos e,cK (by omega),cK (by omega),n,cK (by omega),cK (by omega)];unfold sL;rw[bB Z];refine⟨_,rfl,?_⟩
  rw[zA1];constructor
  ·intro f;exact⟨a,k,c,rfl,e,f⟩
  ·rintro⟨_,i,r,p,_,f⟩;have:i=k:=by omega
   subst this;exact f
 ·rw[if_neg e];exact⟨false,rfl,⟨λq=>(by cases q),fun⟨_,_,_,_,j,_⟩=>absurd j e⟩⟩
end
theorem Og {g:GR} {v:Nat} (k:v<g.2.length) (a x:Int):(tP a g v x->nE 1000 a g v x=some true)∧(¬tP a g v x->nE 1000 a g v x=some false):=by
 have l:(at' g.2 (v:Int)).length=(row g v).length:=rfl;have e:nE 1000 a g v x=rP a g v x (decide (a=1∨a=4)):=by
  unfold nE;by_cases b:a=1
  ·rw[if_pos b,zA9 b,zA9 (.inl b)]
  ·rw[if_neg b];congr 1;exact decide_eq_decide.2 ⟨.inr,λh=>h.resolve_left b⟩
 rw[e];unfold rP tP;by_cases f:a=1∨a=4
 ·rw[if_pos (zA9 f),if_pos f];by_cases b : -1<=x
  ·rw[if_pos b,cK (by omega)];unfold rQ;by_cases i:x<((row g v).length:Int)
   ·rw[zA9 i];exact⟨λ_=>rfl,λj=>absurd ⟨b,i⟩ j⟩
   ·rw[zA8 i];exact⟨λhy=>absurd hy.2 i,λ_=>rfl⟩
  ·rw[if_neg b];exact⟨λhy=>absurd hy.1 b,λ_=>rfl⟩
 ·rw[if_neg f,zA8 f,if_neg (c:=(false=true)) (by simp)];by_cases i:a=2
  ·rw[if_pos i,if_pos i];unfold rR;by_cases d:x=0
   ·rw[if_pos d];exact⟨λ_=>rfl,λj=>absurd (.inl d) j⟩
   ·rw[if_neg d];by_cases b:x=1
    ·rw[zA9 b];exact⟨λ_=>rfl,λj=>absurd (.inr b) j⟩
    ·rw[zA8 b];exact⟨λhy=>by rcases hy with hy|hy;exact absurd hy d;exact absurd hy b,λ_=>rfl⟩
  ·rw[if_neg i,if_neg i];by_cases d:x=0
   ·rw[zA9 d];exact⟨λ_=>rfl,λj=>absurd d j⟩
   ·rw[zA8 d];exact⟨λhy=>absurd hy d,λ_=>rfl⟩
theorem abl {g:GR} (d:VG g) {c:List Int} {l:List (Int×Int)} {v:Nat} (e:v<g.2.length) (k:c.length=g.2.length) (j:l.length=g.2.length) (a:∀v:Nat,v<g.2.length->tP 1 g v (at' c (v:Int))):
  ∃b:Bool,lW 1000 1 g c l (v:Int)=some b∧(b=true↔SU g c l v):=by
 have f:=d.len;obtain⟨b,h,i⟩:=abk (st:=c) (l:=l) ⟨d,e,k,j⟩ (a v e);refine⟨b,?_,i⟩
 unfold lW;rw[bB (show fJ 1000 (g.1,g.2)=some true from(IU g d.light).1 d),if_neg (by simp),bB (show uK 1000 1=some true from rfl),if_neg (by decide),if_neg (by omega),zA8 (by omega)];unfold mY;rw[if_neg (by decide),if_neg (by omega),if_neg (by omega),cK (by omega),bB ((Og e 1 _).1 (a v e))];unfold p_;rw[if_neg (by decide),bB h]
theorem VH {g:GR} (f:VG g) {st:List Int} {l:List (Int×Int)} (w:st.length=g.2.length) (t:l.length=g.2.length) (m:∀v:Nat,v<g.2.length->tP 1 g v (at' st (v:Int))):
  ∃r:Int,j_ 1000 1 g st l=some r∧(r=0↔∀v,v<g.2.length->SU g st l v):=by
 have s:=f.n24;have o:=f.len;let a:Nat->Bool:=λv=>(lW 1000 1 g st l (v:Int)).getD false;have c:∀v,v<g.2.length->lW 1000 1 g st l (v:Int)=some (a v)∧(a v=true↔SU g st l v):=λv e=>by
  obtain⟨b,j,n⟩:=abl f e w t m;have:a v=b:=by simp only[a];rw[j];rfl
  rw[this];exact⟨j,n⟩
 refine⟨((yR (λv=> !a v) g.2.length:Nat):Int),?_,?_⟩
 ·unfold j_;rw[bB (show fJ 1000 (g.1,g.2)=some true from(IU g f.light).1 f),if_neg (by simp)];refine fM (step:=kW 1000 1 g st l) (F:=λv:Nat=>(((yR (λv=> !a v) v:Nat):Int),(v:Int))) g.2.length (λv p e=> ?_) (λp=> ?_) 1000 (by omega)
  ·have u:=PH (λv=> !a v) (k:=v) (by omega);unfold kW nL;dsimp only;rw[if_pos (by omega),bB (show lW 1000 1 (g.1,g.2) st l (v:Int)=_ from(c v e).1),dL (by omega)];cases j:a v with
   |true=>rw[if_neg (by decide)];simp[yR,j]
   |false=>rw[if_pos (by decide),cK (by omega),LG u (by omega)];simp[yR,j]
  ·unfold kW qY;dsimp only;rw[if_neg (by omega)]
 ·constructor
  ·intro h v e;refine(c v e).2.1 ?_;have q:yR (λv=> !a v) g.2.length=0:=by omega
   have d:=Gg (λv=> !a v) v g.2.length;rw[q,zA9 e]at d;simpa using d
  ·intro h;have:yR (λv=> !a v) g.2.length=0:=adh λi=>by
    rw[Gg,Nat.zero_testBit];by_cases n:i<g.2.length
    ·rw[(c i n).2.2 (h i n)];simp
    ·rw[zA8 n];rfl
   rw[this];rfl
end Go.Proofs.YtcnnfkapmjhnaaaGreatDoor
namespace Go.Proofs.YtcnnfkapmjhnaaaGreatDoor
open Go.Sx
def BU  (a:Unit):Option Bool:=
 some (true)
def BV (U:Nat) (f:Int) (e:b_) (c:aO) (a:Int) (b:(Int)->Option Bool):Option Bool:=
 if a<(c.length:Int)then(ck (0<=a∧a<(c.length:Int)) (Option.bind (nE U f ((e.1,e.2)) a (at' c a)) λd=>(if(!d)=true then(some (false))else(b (wI .i64 (a+(1:Int)))))))else(BU  (()))
def wR (U:Nat) (c:Int) (a:b_) (b:aO):Option Bool:=
 if(b.length:Int)≠(a.1.length:Int)then(some (false))else(bH (BV U c a b) U (0:Int))
theorem aeX:aS Tryz.prog 89:=Tryz.call89
theorem Nu (U:Nat) {g:Int} {i:b_} {j:aO} (b:Value)  (d:Value)  (s:jO)  (m:Value) (r:Bool) (h:wR U g i j=some r):
  aY Tryz.prog 89 #[vI (g),Value.agg #[b,d],m] [Sl bP b i.1,S2 aV d s i.2,Sl bP m j] (λx:Unit=>vB (r)) (λx l=>l) (λ_ l=>l):=by
 refine aY.of Tryz.func89 Z Tryz.ntmps89 Z λc=>?_;refine aP<|aG (aI.box (cs:=[b,d]) Z Z) Z λo=>aC Z<|aJ<|aK<|aP<|aA Z<|gS (aE.fact 2 Z) Z<|bY Z<|cR 0 Z<|gS (aE.fact 0 Z) Z<|pC Z<|aJ ?_;refine dK h Z (λh=>?_) λh=>?_
 ·refine aP<|aC Z<|aJ<|aU<|aH ?_;cases h;exact sB Z
 refine cG<|aK<|eJ (λe=>BU  e=some r) (λe p=>[]) (λe p=>[]) ?_ ?_
 ·refine aP<|aA Z<|gS (aE.fact 2 Z) Z<|aA Z<|aJ<|aR<|eO (BV U g i j) (λf q=>[(0,vI (g)),(4,vP o),(15,m),(16,vI (j.length:Int)),(17,vI (f))]) (λf q=>[bM o [b,d] 29]) (0:Int) () h SF (a_.refl _) ?_;intro u f q h;refine aP<|cO Z<|aJ<|aK ?_;refine dK h Z (λh=>?_) λh=>?_
  ·refine cG<|aK<|aR<|aP<|aA Z<|dQ h λa h=>aD (aZ Z Z (aE.fact 2 Z) Z Z a) Z<|aD (bV Z (aE.fact 2 Z) Z Z Z cT a) Z<|aC Z<|aC Z<|aJ<|aP<|aA Z<|cA 0 Z<|aA Z<|aA Z<|dV h λk n h=>aG (zBb UO (EH U b d s k n) Z (kA [0,1] Z)) Z λt=>aD (kB Z) Z<|aJ ?_;refine yW h Z (λ_ h=>?_) λ_ h=>?_
   ·refine aP<|aC Z<|aJ<|aU<|bN<|aH<|aH<|bN<|aH ?_;cases h;exact sB Z
   refine dD<|lU<|aQ<|cH Z<|aA Z<|aJ ?_;exact AS (wI .i64 (f+(1:Int))) () h SF Z
  refine fL ?_;exact bW () (()) h SF .nil (aB.refl _ _)
 intro e p h;unfold BU at h;refine aP<|aC Z<|aJ<|aU ?_;cases h;exact kY Z
def BW  (a:eC):Option (Int):=
 if a.2≠(1:Int)then(some (-1:Int))else(some (a.1))
def uG (b:Int×Int×Int) (c:(Int×Int×Int)->Option (Int)) (a:eC):Option (Int):=
 c (a.1,a.2,(wI .i64 (b.2.2+(1:Int))))
def zN (c:aO) (d:Int) (a:Int×Int×Int) (b:(Int×Int×Int)->Option (Int)):Option (Int):=
 if a.2.2<(c.length:Int)then(ck (0<=a.2.2∧a.2.2<(c.length:Int)) (if(at' c a.2.2)=d then(uG a b (a.2.2,(wI .i64 (a.2.1+(1:Int)))))else(uG a b (a.1,a.2.1))))else(BW  (a.1,a.2.1))
def wS (U:Nat) (a:aO) (b:Int):Option (Int):=
 bH (zN a b) U ((-1:Int),(0:Int),(0:Int))
theorem abH:aS Tryz.prog 174:=Tryz.call174
theorem Nv (U:Nat) {e:aO} {f:Int} (k:Value) (r:Int) (h:wS U e f=some r):
  aY Tryz.prog 174 #[k,vI (f)] [Sl bP k e] (λx:Unit=>vI (r)) (λx l=>l) (λ_ l=>l):=by
 refine aY.of Tryz.func174 Z Tryz.ntmps174 Z λc=>?_;unfold wS at h;refine aP<|aC Z<|aJ<|aP<|aC Z<|aC Z<|aJ<|aK<|eJ (λd=>BW  d=some r) (λd n=>[(5,vI (d.1)),(6,vI (d.2))]) (λd n=>[]) ?_ ?_
 ·refine aP<|aA Z<|gS (aE.fact 0 Z) Z<|aA Z<|aJ<|aR<|eO (zN e f) (λa g=>[(1,vI (f)),(5,vI (a.1)),(6,vI (a.2.1)),(9,k),(10,vI (e.length:Int)),(11,vI (a.2.2))]) (λa g=>[]) ((-1:Int),(0:Int),(0:Int)) () h SF (a_.refl _) ?_;intro m a g h;refine aP<|cO Z<|aJ<|aK ?_;refine dK h Z (λh=>?_) λh=>?_
  ·refine cG<|aK<|eJ (λb=>uG a (bH (zN e f) m) b=some r) (λb i=>[(1,vI (f)),(5,vI (b.1)),(6,vI (b.2)),(9,k),(10,vI (e.length:Int)),(11,vI (a.2.2))]) (λb i=>[]) ?_ ?_
   ·refine aR<|aP<|aA Z<|dQ h λj h=>aD (aZ Z Z (aE.fact 0 Z) Z Z j) Z<|aD (bV Z (aE.fact 0 Z) Z Z Z cT j) Z<|aC Z<|aC Z<|aJ<|aP<|aA Z<|aA Z<|bS Z<|aJ ?_;refine dK h Z (λh=>?_) λh=>?_
    ·refine aP<|aA Z<|aC Z<|aJ<|aQ<|aA Z<|cH Z<|aC Z<|eV<|lU ?_;exact iH (a.2.2,(wI .i64 (a.2.1+(1:Int)))) () h SF Z
    refine dD<|lU ?_;exact iH (a.1,a.2.1) () h SF Z
   intro b i h;unfold uG at h;refine aQ<|cH Z<|aA Z<|aJ ?_;exact AS (b.1,b.2,(wI .i64 (a.2.2+(1:Int)))) () h SF Z
  refine fL ?_;exact iH (a.1,a.2.1) () h SF Z
 intro d n h;refine aK<|aP<|aA Z<|pC Z<|aJ ?_;refine dK h Z (λh=>?_) λh=>?_
 ·refine aP<|aC Z<|aJ<|aU<|aH ?_;cases h;exact kY Z
 refine cG<|aP<|aA Z<|aC Z<|aJ<|aU ?_;cases h;exact kY Z
def BX  (a:cC):Option (cC×Bool):=
 some (a,true)
def BY (e:b_) (d:Int) (a:Int×cC) (b:(Int×cC)->Option (cC×Bool)) (c:Int):Option (cC×Bool):=
 ck (0<=d∧d<(e.1.length:Int)) (ck (0<=a.1∧a.1<(a.2.length:Int)) (b ((wI .i64 (a.1+(1:Int))),(List.set a.2 (Int.toNat a.1) ((at' e.1 d),c)))))
def BZ (e:b_) (d:aO) (g:Int) (f:Int×cC) (b:(Int×cC)->Option (cC×Bool)) (a:eC) (c:gW->Option (cC×Bool)):Option (cC×Bool):=
 if a.2≠g then(if(d.length:Int)<=(wI .i64 (a.1+(1:Int)))then(some (([]:cC),false))else(ck (0<=a.2∧a.2<(e.2.length:Int)) (ck (0<=a.2∧a.2<(d.length:Int)) (ck (0<=(at' d a.2)∧(at' d a.2)<((at' e.2 a.2).length:Int)) (c ((wI .i64 (a.1+(1:Int))),((at' (at' e.2 a.2) (at' d a.2)).1)))))))else(BY e g f b (a.1))
def uH (U:Nat) (d:b_) (c:aO) (e:Int) (a:Int×cC) (b:(Int×cC)->Option (cC×Bool)):Option (cC×Bool):=
 if a.1<(c.length:Int)then(bH (BZ d c e a b) U ((0:Int),a.1))else(BX  (a.2))
def tE (U:Nat) (c:b_) (a:aO):Option (cC×Bool):=
 Option.bind (wS U a (-1:Int)) λb=>(if b<(0:Int)then(some (([]:cC),false))else(ck (0<=(a.length:Int)∧(a.length:Int)<=1099511627) (bH (uH U c a b) U ((0:Int),(List.replicate (Int.toNat (a.length:Int)) ((0:Int),(0:Int)))))))
theorem aeY:aS Tryz.prog 90:=Tryz.call90
theorem Nw (U:Nat) {g:b_} {j:aO} (n:Value)  (p:Value)  (J:jO)  (q:Value) (r:cC×Bool) (h:tE U g j=some r):
  aY Tryz.prog 90 #[Value.agg #[n,p],q] [Sl bP n g.1,S2 aV p J g.2,Sl bP q j] (λx:Value=>Value.tuple #[x,vB (r.2)]) (λx l=>Ar bT x r.1::l) (λ_ l=>l):=by
 refine aY.of Tryz.func90 Z Tryz.ntmps90 Z λc=>?_;refine aP<|aG (aI.box (cs:=[n,p]) Z Z) Z λm=>aC Z<|aC Z<|aJ<|aP<|aA Z<|dV h λi H h=>aG (zBb abH (Nv U q i H) Z (kA [2] Z)) Z λK=>aC Z<|aJ<|aK<|aP<|aA Z<|cO Z<|aJ ?_;refine dK h Z (λh=>?_) λh=>?_
 ·refine aP<|aC Z<|aC Z<|aJ<|aU<|aH<|jT (gK bT) ?_;cases h;exact iG (lE) Z Z (RV.tmp Z) (RV.tmp Z) (a_.ix [0] Z Z) aB.nil
 refine cG<|aP<|aA Z<|gS (aE.fact 2 Z) Z<|dQ h λF h=>aG (qO (e:=bT) (((0:Int),(0:Int))) Z Z Z Z F Z Z Z) Z λk=>aC Z<|aJ<|aK<|eJ (λs=>BX  s=some r) (λs t=>[(7,k)]) (λs t=>[Ar bT k s]) ?_ ?_
 ·refine aP<|aA Z<|gS (aE.fact 2 Z) Z<|aA Z<|aJ<|aR<|eO (uH U g j i) (λa u=>[(1,q),(2,vP m),(6,vI (i)),(7,k),(19,vI (j.length:Int)),(20,vI (a.1))]) (λa u=>[Ar bT k a.2,bM m [n,p] 29]) ((0:Int),(List.replicate (Int.toNat (j.length:Int)) ((0:Int),(0:Int)))) () h SF (a_.refl _) ?_;intro E a u h;refine aP<|cO Z<|aJ<|aK ?_;refine dK h Z (λh=>?_) λh=>?_
  ·refine cG<|aK<|aR<|aP<|aA Z<|aC Z<|aJ<|aP<|aC Z<|aJ<|aK<|eJ (λb=>BY g i a (bH (uH U g j i) E) b=some r) (λb v=>[(1,q),(2,vP m),(6,vI (i)),(7,k),(8,vI (a.1)),(9,vI (b)),(19,vI (j.length:Int)),(20,vI (a.1))]) (λb v=>[Ar bT k a.2,bM m [n,p] 29]) ?_ ?_
   ·refine aP<|aA Z<|aC Z<|aJ<|aR<|eO (BZ g j i a (bH (uH U g j i) E)) (λd y=>[(1,q),(2,vP m),(6,vI (i)),(7,k),(8,vI (a.1)),(9,vI (d.1)),(10,vI (d.2)),(19,vI (j.length:Int)),(20,vI (a.1))]) (λd y=>[Ar bT k a.2,bM m [n,p] 29]) ((0:Int),a.1) () h SF (a_.refl _) ?_;intro G d y h;refine aK<|aP<|aA Z<|aA Z<|pC Z<|aJ ?_;refine dK h Z (λh=>?_) λh=>?_
    ·refine cG<|aK<|aR<|aP<|aA Z<|cH Z<|aC Z<|aJ<|aP<|aA Z<|aA Z<|gS (aE.fact 2 Z) Z<|aD (Bo Z Z) Z<|aJ ?_;refine dK h Z (λh=>?_) λh=>?_
     ·refine aP<|aC Z<|aC Z<|aJ<|aU<|bN<|aH<|aH<|bN<|aH<|bN<|aH<|aH<|bN<|aH<|jT (gK bT) ?_;cases h;exact iG (lE) Z Z (RV.tmp Z) (RV.tmp Z) (a_.ix [0] Z Z) aB.nil
     refine dD<|lU ?_;refine JR.start [0,1,0,7,15,0,0,96,224,511,1023,2047,4095] 9 mixedOrders (by decide +kernel) ?_;refine zBe (by exact rfl) ?_;refine dJ Z<|fG 1 Z<|bA Z<|dQ h λf h=>bG Z .nil (hZ 1 Z) (cV Z Z (aE.fact 0 Z) Z Z f) aN.z<|bG Z .nil (hZ 1 Z) (cP Z (aE.fact 0 Z) Z Z f) aN.z<|bA Z<|bA Z<|dQ h λC h=>bG Z .nil (hZ 2 Z) (aZ Z Z (aE.fact 0 Z) Z Z C) aN.z<|bG Z .nil (hZ 2 Z) (bV Z (aE.fact 0 Z) Z Z Z cT C) aN.z<|bR 9 Z Z<|dQ h λD h=>aD (aZ Z Z (zBd (aE.fact 1 Z) f.1 f.2) Z Z D) Z<|aD (n_ Z Z Z Z Z) Z<|aD (mA Z (zBd (aE.fact 1 Z) f.1 f.2) Z Z Z sF D) Z<|aC Z<|aJ ?_;exact AS ((wI .i64 (d.1+(1:Int))),((at' (at' g.2 d.2) (at' j d.2)).1)) () h SF Z
    refine fL ?_;exact iH (d.1) () h SF Z
   intro b v h;refine aQ<|aA Z<|aA Z<|bY Z<|cR 1 Z<|aA Z<|dQ h λA h=>aD (aZ Z Z (aE.fact 0 Z) Z Z A) Z<|aD (bV Z (aE.fact 0 Z) Z Z Z cT A) Z<|aA Z ?_;refine aD (DU (r:=Value.agg #[vI (at' g.1 i),vI (b)]) Z Z (by intro w;simp[Instr.build,Instr.fill,dX,dA,cM,dY,dZ,dB,eQ])) Z<|dQ h λB h=>aD (aZ Z Z (aT (aE.res 0 Z) bD) Z Z B) Z<|KN (EZ (us:=[vI (at' g.1 i),vI (b)]) (o:=0) 0 (((at' g.1 i),b)) B Z Z Z Z Z Z Z Z Z Z) λI=>eV<|lU<|aQ<|cH Z<|aA Z<|aJ ?_;exact AS ((wI .i64 (a.1+(1:Int))),(List.set a.2 (Int.toNat a.1) ((at' g.1 i),b))) () h SF Z
  refine fL ?_;exact bW (a.2) () h SF (a_.ix [0] Z Z) (aB.refl _ _)
 intro s t h;unfold BX at h;refine aP<|aA Z<|aC Z<|aC Z<|aJ<|aU ?_;cases h;exact iG (k) Z Z (RV.tmp Z) (RV.tmp Z) (a_.refl _) aB.nil
def iQ (U:Nat) (a:Int) (b:b_) (e:aO):Option (cC×Int):=
 Option.bind (cW U ((b.1,b.2))) λf=>(if(!f)=true then(some (([]:cC),(1:Int)))else(Option.bind (uK U a) λg=>(if(!g)=true then(some (([]:cC),(2:Int)))else(Option.bind (wR U a ((b.1,b.2)) e) λd=>(if(!d)=true then(some (([]:cC),(7:Int)))else(ck (0<=(wI .i64 (a - (1:Int)))∧(wI .i64 (a - (1:Int)))<((4:Nat):Int)) (if wI .i64 (a - (1:Int))=(0:Int)then(Option.bind (tE U ((b.1,b.2)) e) λc=>(if(!c.2)=true then(some (([]:cC),(7:Int)))else(some (c.1,(0:Int)))))else(if wI .i64 (a - (1:Int))=(1:Int)then(none)else(if wI .i64 (a - (1:Int))=(2:Int)then(none)else(none))))))))))
theorem Yp:aS Tryz.prog 15:=Tryz.call15
theorem FK (U:Nat) {g:Int} {m:b_} {s:aO} (e:Value)  (f:Value)  (k:jO)  (i:Value) (r:cC×Int) (h:iQ U g m s=some r):
  aY Tryz.prog 15 #[vI (g),Value.agg #[e,f],i] [Sl bP e m.1,S2 aV f k m.2,Sl bP i s] (λx:Value=>Value.tuple #[x,vI (r.2)]) (λx l=>Ar bT x r.1::l) (λ_ l=>l):=by
 refine aY.of Tryz.func15 Z Tryz.ntmps15 Z λc=>?_;refine aP<|aG (aI.box (cs:=[e,f]) Z Z) Z λC=>aC Z<|aC Z<|aJ<|aK<|aP<|cA 0 Z<|dV h λv z h=>aG (zBb LK (qH U e f k v z) Z (kA [0,1] Z)) Z λD=>aD (kB Z) Z<|aJ ?_;refine yW h Z (λ_ h=>?_) λ_ h=>?_
 ·refine aP<|aC Z<|aC Z<|aJ<|aU<|aH<|jT (gK bT) ?_;cases h;exact iG (lE) Z Z (RV.tmp Z) (RV.tmp Z) (a_.ix [0] Z Z) aB.nil
 refine cG<|aK<|aP<|aA Z<|dV h λy A h=>aG (zBb Yu (FM U  y A) Z .nil) Z λE=>aD (kB Z) Z<|aJ ?_;refine yW h Z (λ_ h=>?_) λ_ h=>?_
 ·refine aP<|aC Z<|aC Z<|aJ<|aU<|aH<|jT (gK bT) ?_;cases h;exact iG (lE) Z Z (RV.tmp Z) (RV.tmp Z) (a_.ix [0] Z Z) aB.nil
 refine cG<|aK<|aP<|aA Z<|cA 0 Z<|aA Z<|dV h λn p h=>aG (zBb aeX (Nu U e f k i n p) Z (kA [0,1,2] Z)) Z λB=>aD (kB Z) Z<|aJ ?_;refine yW h Z (λ_ h=>?_) λ_ h=>?_
 ·refine aP<|aC Z<|aC Z<|aJ<|aU<|aH<|jT (gK bT) ?_;cases h;exact iG (lE) Z Z (RV.tmp Z) (RV.tmp Z) (a_.ix [0] Z Z) aB.nil
 refine cG<|aP ?_;refine aD (LB (r:=Value.agg #[Value.func (.func 90) #[] #[],Value.func (.func 91) #[] #[],Value.func (.func 92) #[] #[],Value.func (.func 93) #[] #[]]) Z Z Z Z (by intro w;simp[Instr.build,Instr.fill,dX,dA,cM,dY,dZ,dB,eQ])) Z ?_;refine aG (aI.alloc (cs:=[Value.nilFunc,Value.nilFunc,Value.nilFunc,Value.nilFunc]) Z Z) Z λt=>bK 0 (vs:=[Value.func (.func 90) #[] #[],Value.func (.func 91) #[] #[],Value.func (.func 92) #[] #[],Value.func (.func 93) #[] #[]]) Z Z Z Z Z Z<|aJ<|aK ?_;refine JR.start [0,1,3,7,0,0,63,127,255,255,511,2047] 11 mixedOrders (by decide +kernel) ?_;refine zBe (by exact rfl) ?_;refine bA Z<|gO Z (qP Z Z)<|dQ h λu h=>?_;by_cases a:wI .i64 (g - (1:Int))=(0:Int)
 ·have h:=Kx a h;refine gO Z (CI 0 Z Z Z Z Z a Z)<|fG 0 Z<|fX 1 Z<|bA Z<|dV h λo q h=>zBc Z Z Z (i_ (vs:=[Value.agg #[e,f],i]) (cs:=[]) aeY Z (Nw U e f k i o q) Z (kA [0,1,2] Z) (λ_ _=>rfl)) Z (λj=>(jD [] Z)) λj=>gO Z (gN Z)<|gO Z (fZ Z Z)<|gO Z (fZ Z Z)<|gO Z (wO Z)<|bR 11 Z Z<|aC Z<|aJ<|aK<|aP<|aA Z<|aD (kB Z) Z<|aJ ?_;refine yW h Z (λ_ h=>?_) λ_ h=>?_
  ·refine aP<|aC Z<|aC Z<|aJ<|aU<|aH<|jT (gK bT) ?_;cases h;exact iG (lE) Z Z (RV.tmp Z) (RV.tmp Z) (a_.ix [0] Z Z) aB.nil
  refine cG<|aP<|aA Z<|aC Z<|aC Z<|aJ<|aU ?_;cases h;exact iG (j) Z Z (RV.tmp Z) (RV.tmp Z) (a_.ix [0] Z Z) aB.nil
 have h:=Xy a h;by_cases b:wI .i64 (g - (1:Int))=(1:Int)
 ·have h:=Kx b h;refine gO Z (CI 1 Z Z Z Z Z b Z)<|fG 0 Z<|fX 1 Z<|bA Z ?_;cases h
 have h:=Xy b h;by_cases d:wI .i64 (g - (1:Int))=(2:Int)
 ·have h:=Kx d h;refine gO Z (CI 2 Z Z Z Z Z d Z)<|fG 0 Z<|fX 1 Z<|bA Z ?_;cases h
 have h:=Xy d h;refine gO Z (CI 3 Z Z Z Z Z (by omega) Z) ?_;refine fG 0 Z<|fX 1 Z<|bA Z ?_;cases h
end Go.Proofs.YtcnnfkapmjhnaaaGreatDoor
namespace Go.Proofs.YtcnnfkapmjhnaaaGreatDoor
open Go Go.Sx
theorem afO {p:Nat->Prop} (h:∃k,p k):∃k,p k∧∀j,j<k->¬p j:=by
 obtain⟨k,c⟩:=h
 induction k using Nat.strongRecOn with
 | _ k ih =>
  by_cases h:∃j,j<k∧p j
  ·obtain⟨j,a,b⟩:=h;exact ih j a b
  ·exact⟨k,c,λj a b=>h ⟨j,a,b⟩⟩
def agE (b:aO) (x r:Int):Prop:=(r = -1∧¬ ∃a,Tg b x a)∨∃a:Nat,r=(a:Int)∧Tg b x a
theorem adl (h:aO) (x:Int) (F:h.length<=100):OK (agE h x) (wS 1000 h x):=by
 unfold wS;refine vJ (λs:Int×Int×Int=>∃k f:Nat,s.2.2=k∧s.2.1=f∧k<=h.length∧f<=k∧((f=0∧s.1 = -1∧∀b:Nat,b<k->at' h (b:Int)≠x)∨(f=1∧∃a:Nat,s.1=a∧a<k∧at' h (a:Int)=x∧∀b:Nat,b<k->at' h (b:Int)=x->b=a)∨(2<=f∧∃a b:Nat,a<b∧b<k∧at' h (a:Int)=x∧at' h (b:Int)=x))) (λs=>h.length - s.2.2.toNat) ?_ 1000 _ ⟨0,0,rfl,rfl,by omega,by omega,.inl ⟨rfl,rfl,λb t=>by omega⟩⟩ (by dsimp only;omega);rintro⟨r,C,G⟩ B ⟨k,f,y,w,A,z,o⟩ l;dsimp only at y w o;subst y w;unfold zN uG BW;dsimp only;by_cases n:(k:Int)<(h.length:Int)
 ·rw[if_pos n,cK (by omega),wr (by omega) (by omega),wr (by omega) (by omega)];by_cases m:at' h (k:Int)=x
  ·rw[if_pos m];refine l _ ⟨k+1,f+1,by simp,by simp,by omega,by omega,?_⟩ (by dsimp only;omega);dsimp only;rcases o with⟨j,d,c⟩|⟨j,a,d,c,g,i⟩|⟨j,a,b,d,c,g,i⟩
   ·refine .inr (.inl ⟨by omega,k,rfl,by omega,m,λb t p=> ?_⟩);by_cases e:b=k
    ·exact e
    ·exact absurd p (c b (by omega))
   ·exact .inr (.inr ⟨by omega,a,k,c,by omega,g,m⟩)
   ·exact .inr (.inr ⟨by omega,a,b,d,by omega,g,i⟩)
  ·rw[if_neg m];refine l _ ⟨k+1,f,by simp,rfl,by omega,by omega,?_⟩ (by dsimp only;omega);dsimp only;rcases o with⟨j,d,c⟩|⟨j,a,d,c,g,i⟩|⟨j,a,b,d,c,g,i⟩
   ·refine .inl ⟨j,d,λb t=> ?_⟩;by_cases e:b=k
    ·subst e;exact m
    ·exact c b (by omega)
   ·refine .inr (.inl ⟨j,a,d,by omega,g,λb t p=> ?_⟩);by_cases e:b=k
    ·subst e;exact absurd p m
    ·exact i b (by omega) p
   ·exact .inr (.inr ⟨j,a,b,d,by omega,g,i⟩)
 ·rw[if_neg n];have u:k=h.length:=by omega
  subst u;rcases o with⟨j,d,c⟩|⟨j,a,d,c,g,i⟩|⟨j,a,b,d,c,g,i⟩
  ·rw[if_pos (by omega)];exact⟨_,rfl,.inl ⟨rfl,fun⟨a,g,i,_⟩=>c a g i⟩⟩
  ·rw[if_neg (by omega)];exact⟨_,rfl,.inr ⟨a,d,c,g,i⟩⟩
  ·rw[if_pos (by omega)];exact⟨_,rfl,.inl ⟨rfl,fun⟨q,D,E,v⟩=>by
    have:=v a (by omega) g;have:=v b c i;omega⟩⟩
structure XE (kind:Int) (g:GR) (st:aO):Prop where
 len:st.length=g.2.length
 fit:∀v:Nat,v<g.2.length->tP kind g v (at' st (v:Int))
section
variable {g:GR} {st:List Int}
theorem aau (hV:VG g) (hF:XE 1 g st):OK (λq:List (Int×Int)×Bool=>(q.2=true∧∃r,NK g st r∧Uz g st r q.1)∨(q=([],false)∧¬Yc g st)) (tE 1000 g st):=by
 have h24:=hV.n24;have h1:=hV.n1;have hlen:=hV.len;have hst:=hF.len;unfold tE;obtain⟨r0,er,hr⟩:=adl st (-1) (by omega);rw[bB er];rcases hr with⟨hr,hn⟩|⟨r,rfl,hr⟩
 ·rw[if_pos (by omega)];exact⟨_,rfl,.inr ⟨rfl,fun⟨r,h,_⟩=>hn ⟨r,h⟩⟩⟩
 have hrl:=hr.1;rw[if_neg (by omega),cK (by omega)];have e0:Int.toNat (st.length:Int)=g.2.length:=by omega
 rw[e0];refine vJ (λs:Int×List (Int×Int)=>∃k:Nat,s.1=k∧k<=g.2.length∧s.2.length=g.2.length∧∀v:Nat,v<k->∃q:Nat,at' s.2 (v:Int)=(at' g.1 (r:Int),(q:Int))∧J_ g st r v q) (λs=>g.2.length - s.1.toNat) ?_ 1000 _ ⟨0,rfl,by omega,by simp,λv hv=>by omega⟩ (by dsimp only;omega);rintro⟨i,l⟩ ag ⟨v,hi,hvn,hl,hall⟩ hrec;dsimp only at hi hl hall;subst hi;unfold uH;dsimp only;by_cases hvs:(v:Int)<(st.length:Int)
 ·rw[if_pos hvs];have hv:v<g.2.length:=by omega
  refine vJ (λs:Int×Int=>∃k:Nat,s=((k:Int),((go g st k v:Nat):Int))∧k<g.2.length∧∀j,j<k->go g st j v≠r) (λs=>g.2.length - s.1.toNat) ?_ 1000 _ ⟨0,rfl,by omega,λj hj=>by omega⟩ (by dsimp only;omega);rintro s ag2 ⟨k,rfl,hk,hj⟩ hrec2;have hgr:=TM hV hF.fit k v hv;have hp:=RR hV hgr (hF.fit _ hgr);have hft:=hF.fit _ hgr;rw[tP,if_pos (.inl Z)]at hft;unfold BZ;dsimp only;by_cases hne:((go g st k v:Nat):Int)≠(r:Int)
  ·rw[if_pos hne,wr (by omega) (by omega)];by_cases hend:(st.length:Int)<=(k:Int)+1
   ·rw[if_pos hend];refine⟨_,rfl,.inr ⟨rfl,fun⟨r',h'⟩=> ?_⟩⟩
    have hrr:=h'.root.2.2 r hr.1 hr.2.1;subst hrr;obtain⟨q,hq⟩:=afO (h'.all v hv);have hq2:J_ g st r v q:=hq;have hlt:=Sk hV hF.fit hv hq2;by_cases hqk:q<=k
    ·by_cases hqe:q=k
     ·subst hqe;exact hne (by rw[hq.1])
     ·exact hj q (by omega) hq.1
    ·omega
   ·rw[if_neg hend,cK (by omega),cK (by omega)]
    -- the node is no root
    have hnr:0<=at' st ((go g st k v:Nat):Int):=by
     rcases Int.lt_or_le (at' st ((go g st k v:Nat):Int)) 0 with h0|h0
     ·have he:=hr.2.2 (go g st k v) (by omega) (by omega);exact absurd (congrArg Int.ofNat he) hne
     ·exact h0
    have e:(at' g.2 ((go g st k v:Nat):Int)).length=(row g (go g st k v)).length:=rfl;rw[cK (by omega)];have hpe:(at' (at' g.2 ((go g st k v:Nat):Int)) (at' st ((go g st k v:Nat):Int))).1=PR g st (go g st k v):=by
     unfold PR;rw[if_pos hnr]
    rw[hpe];refine hrec2 _ ⟨k+1,?_,by omega,λj hj2=> ?_⟩ (by dsimp only;omega)
    ·rw[acJ];have:=hp.2.2.2 hnr;congr 1;omega
    ·by_cases hje:j=k
     ·subst hje;exact λhe=>hne (by rw[he])
     ·exact hj j (by omega)
  ·rw[if_neg hne];have hge:go g st k v=r:=by omega
   unfold BY;dsimp only;rw[cK (by omega),cK (by omega),wr (by omega) (by omega)];have e1:Int.toNat (v:Int)=v:=by omega
   rw[e1];refine hrec _ ⟨v+1,by simp,by omega,by simpa using hl,λu hu=> ?_⟩ (by dsimp only;omega);dsimp only;rw[qQ _ _ _ _ (by omega)];by_cases huv:u=v
   ·subst huv;rw[if_pos Z];exact⟨k,rfl,hge,hj⟩
   ·rw[if_neg huv];exact hall u (by omega)
 ·rw[if_neg hvs];have hvv:v=g.2.length:=by omega
  subst hvv;refine⟨_,rfl,.inl ⟨rfl,r,⟨hr,λu hu=> ?_⟩,hl,λu hu=>hall u hu⟩⟩
  obtain⟨q,_,hq,_⟩:=hall u hu;exact⟨q,hq⟩
theorem YY (d:VG g) (c:XE 1 g st):wR 1000 1 g st=some true:=by
 have f:=d.n24;have e:=d.len;have h:=c.len;unfold wR;rw[if_neg (by omega)];refine Lc (λs:Int=>∃k:Nat,s=k∧k<=g.2.length) (λs=>g.2.length - s.toNat) ?_ 1000 0 ⟨0,rfl,by omega⟩ (by omega);rintro i j ⟨k,rfl,l⟩ b;unfold BV;by_cases a:(k:Int)<(st.length:Int)
 ·rw[if_pos a,cK (by omega),bB ((Og (by omega) 1 _).1 (c.fit k (by omega))),if_neg (by simp),wr (by omega) (by omega)];exact b _ ⟨k+1,by omega,by omega⟩ (by omega)
 ·rw[if_neg a];rfl
end
end Go.Proofs.YtcnnfkapmjhnaaaGreatDoor
namespace Go.Proofs.YtcnnfkapmjhnaaaGreatDoor
open Go.Sx
def Hv (U:Nat)  : Option (ByteArray):=
 some (ByteArray.mk #[112,114,111,103,114,97,109,32,98,102,115,59,10,118,97,114,32,100,32,58,32,48,32,46,46,32,110,59,10,118,97,114,32,112,32,58,32,112,111,114,116,59,10,114,117,108,101,32,116,111,112,58,32,114,111,111,116,32,38,38,32,40,100,32,33,61,32,48,32,124,124,32,112,32,33,61,32,110,111,110,101,41,32,45,62,32,100,32,58,61,32,48,44,32,112,32,58,61,32,110,111,110,101,59,10,114,117,108,101,32,108,111,119,58,32,33,114,111,111,116,32,38,38,32,40,100,32,33,61,32,40,109,105,110,40,113,46,100,41,32,60,32,110,32,63,32,109,105,110,40,113,46,100,41,32,43,32,49,32,58,32,110,41,32,124,124,32,112,32,33,61,32,102,105,114,115,116,40,113,46,100,32,61,61,32,109,105,110,40,113,46,100,41,41,41,10,32,32,45,62,32,100,32,58,61,32,40,109,105,110,40,113,46,100,41,32,60,32,110,32,63,32,109,105,110,40,113,46,100,41,32,43,32,49,32,58,32,110,41,44,32,112,32,58,61,32,102,105,114,115,116,40,113,46,100,32,61,61,32,109,105,110,40,113,46,100,41,41,59,10])
theorem aeL:aS Tryz.prog 26:=Tryz.call26
theorem Uk (U:Nat)  (r:ByteArray) (h:Hv U  = some r):
  aY Tryz.prog 26 #[] [] (λx:Unit=>vS (r)) (λx l=>l) (λ_ l=>l):=by
 refine aY.of Tryz.func26 Z Tryz.ntmps26 Z λc=>?_;unfold Hv at h;refine aP<|aC Z<|aJ<|aP<|aC Z<|aJ<|aU ?_;cases h;exact kY Z
def Ei (U:Nat)  : Option (ByteArray):=
 some (ByteArray.mk #[112,114,111,103,114,97,109,32,112,97,116,104,115,59,10,118,97,114,32,100,32,58,32,48,32,46,46,32,49,53,32,42,32,110,59,10,118,97,114,32,112,32,58,32,112,111,114,116,59,10,114,117,108,101,32,116,111,112,58,32,114,111,111,116,32,38,38,32,40,100,32,33,61,32,48,32,124,124,32,112,32,33,61,32,110,111,110,101,41,32,45,62,32,100,32,58,61,32,48,44,32,112,32,58,61,32,110,111,110,101,59,10,114,117,108,101,32,108,111,119,58,32,33,114,111,111,116,32,38,38,32,40,100,32,33,61,32,40,109,105,110,40,113,46,100,32,43,32,113,46,119,101,105,103,104,116,41,32,60,32,49,53,32,42,32,110,32,63,32,109,105,110,40,113,46,100,32,43,32,113,46,119,101,105,103,104,116,41,32,58,32,49,53,32,42,32,110,41,32,124,124,32,112,32,33,61,32,102,105,114,115,116,40,113,46,100,32,43,32,113,46,119,101,105,103,104,116,32,61,61,32,109,105,110,40,113,46,100,32,43,32,113,46,119,101,105,103,104,116,41,41,41,10,32,32,45,62,32,100,32,58,61,32,40,109,105,110,40,113,46,100,32,43,32,113,46,119,101,105,103,104,116,41,32,60,32,49,53,32,42,32,110,32,63,32,109,105,110,40,113,46,100,32,43,32,113,46,119,101,105,103,104,116,41,32,58,32,49,53,32,42,32,110,41,44,32,112,32,58,61,32,102,105,114,115,116,40,113,46,100,32,43,32,113,46,119,101,105,103,104,116,32,61,61,32,109,105,110,40,113,46,100,32,43,32,113,46,119,101,105,103,104,116,41,41,59,10])
theorem aeM:aS Tryz.prog 27:=Tryz.call27
theorem Qc (U:Nat)  (r:ByteArray) (h:Ei U  = some r):
  aY Tryz.prog 27 #[] [] (λx:Unit=>vS (r)) (λx l=>l) (λ_ l=>l):=by
 refine aY.of Tryz.func27 Z Tryz.ntmps27 Z λc=>?_;unfold Ei at h;refine aP<|aC Z<|aJ<|aP<|aC Z<|aJ<|aU ?_;cases h;exact kY Z
def Db (U:Nat)  : Option (ByteArray):=
 some (ByteArray.mk #[112,114,111,103,114,97,109,32,119,105,100,101,115,116,59,10,118,97,114,32,120,32,58,32,48,32,46,46,32,49,54,32,42,32,110,59,10,118,97,114,32,112,32,58,32,112,111,114,116,59,10,114,117,108,101,32,116,111,112,58,32,114,111,111,116,32,38,38,32,40,120,32,33,61,32,48,32,124,124,32,112,32,33,61,32,110,111,110,101,41,32,45,62,32,120,32,58,61,32,48,44,32,112,32,58,61,32,110,111,110,101,59,10,114,117,108,101,32,108,111,119,58,32,33,114,111,111,116,32,38,38,32,40,120,32,33,61,32,40,109,105,110,40,113,46,120,32,43,32,49,32,62,32,113,46,119,101,105,103,104,116,32,42,32,110,32,63,32,113,46,120,32,43,32,49,32,58,32,113,46,119,101,105,103,104,116,32,42,32,110,41,32,60,32,49,54,32,42,32,110,32,63,32,109,105,110,40,113,46,120,32,43,32,49,32,62,32,113,46,119,101,105,103,104,116,32,42,32,110,32,63,32,113,46,120,32,43,32,49,32,58,32,113,46,119,101,105,103,104,116,32,42,32,110,41,32,58,32,49,54,32,42,32,110,41,32,124,124,32,112,32,33,61,32,102,105,114,115,116,40,40,113,46,120,32,43,32,49,32,62,32,113,46,119,101,105,103,104,116,32,42,32,110,32,63,32,113,46,120,32,43,32,49,32,58,32,113,46,119,101,105,103,104,116,32,42,32,110,41,32,61,61,32,109,105,110,40,113,46,120,32,43,32,49,32,62,32,113,46,119,101,105,103,104,116,32,42,32,110,32,63,32,113,46,120,32,43,32,49,32,58,32,113,46,119,101,105,103,104,116,32,42,32,110,41,41,41,10,32,32,45,62,32,120,32,58,61,32,40,109,105,110,40,113,46,120,32,43,32,49,32,62,32,113,46,119,101,105,103,104,116,32,42,32,110,32,63,32,113,46,120,32,43,32,49,32,58,32,113,46,119,101,105,103,104,116,32,42,32,110,41,32,60,32,49,54,32,42,32,110,32,63,32,109,105,110,40,113,46,120,32,43,32,49,32,62,32,113,46,119,101,105,103,104,116,32,42,32,110,32,63,32,113,46,120,32,43,32,49,32,58,32,113,46,119,101,105,103,104,116,32,42,32,110,41,32,58,32,49,54,32,42,32,110,41,44,32,112,32,58,61,32,102,105,114,115,116,40,40,113,46,120,32,43,32,49,32,62,32,113,46,119,101,105,103,104,116,32,42,32,110,32,63,32,113,46,120,32,43,32,49,32,58,32,113,46,119,101,105,103,104,116,32,42,32,110,41,32,61,61,32,109,105,110,40,113,46,120,32,43,32,49,32,62,32,113,46,119,101,105,103,104,116,32,42,32,110,32,63,32,113,46,120,32,43,32,49,32,58,32,113,46,119,101,105,103,104,116,32,42,32,110,41,41,59,10])
theorem aeN:aS Tryz.prog 28:=Tryz.call28
theorem NB (U:Nat)  (r:ByteArray) (h:Db U  = some r):
  aY Tryz.prog 28 #[] [] (λx:Unit=>vS (r)) (λx l=>l) (λ_ l=>l):=by
 refine aY.of Tryz.func28 Z Tryz.ntmps28 Z λc=>?_;unfold Db at h;refine aP<|aC Z<|aJ<|aP<|aC Z<|aJ<|aU ?_;cases h;exact kY Z
def zU (U:Nat) (a:Int):Option (ByteArray):=
 if a=(0:Int)then(Option.bind (Hv U) λc=>(some (c)))else(if a=(1:Int)then(Option.bind (Ei U) λd=>(some (d)))else(if a=(2:Int)then(Option.bind (Db U) λb=>(some (b)))else(if a=(3:Int)then(none)else(if a=(4:Int)then(none)else(if a=(5:Int)then(none)else(if a=(6:Int)then(none)else(if a=(7:Int)then(none)else(if a=(8:Int)then(none)else(if a=(9:Int)then(none)else(if a=(10:Int)then(none)else(if a=(11:Int)then(none)else(if a=(12:Int)then(none)else(if a=(13:Int)then(none)else(none))))))))))))))
theorem Kc:aS Tryz.prog 8:=Tryz.call8
theorem qJ (U:Nat) {d:Int} (r:ByteArray) (h:zU U d=some r):
  aY Tryz.prog 8 #[vI (d)] [] (λx:Unit=>vS (r)) (λx l=>l) (λ_ l=>l):=by
 refine aY.of Tryz.func8 Z Tryz.ntmps8 Z λc=>?_;refine aP<|aC Z<|aJ<|aK<|aP<|aA Z<|aJ<|aR<|aP<|bS Z<|aC Z<|aJ ?_;refine dK h Z (λh=>?_) λh=>?_
 ·refine aP<|dV h λe g h=>aG (zBb aeL (Uk U  e g) Z .nil) Z λk=>aC Z<|aJ<|aU<|bN<|aH ?_;cases h;exact kY Z
 refine aP<|bS Z<|aC Z<|aJ ?_;refine dK h Z (λh=>?_) λh=>?_
 ·refine aP<|dV h λf i h=>aG (zBb aeM (Qc U  f i) Z .nil) Z λm=>aC Z<|aJ<|aU<|bN<|aH ?_;cases h;exact kY Z
 refine aP<|bS Z<|aC Z<|aJ ?_;refine dK h Z (λh=>?_) λh=>?_
 ·refine aP<|dV h λa b h=>aG (zBb aeN (NB U  a b) Z .nil) Z λj=>aC Z<|aJ<|aU<|bN<|aH ?_;cases h;exact kY Z
 refine aP<|bS Z<|aC Z<|aJ ?_;refine dK h Z (λh=>?_) λh=>?_
 ·refine aP ?_;cases h
 refine aP<|bS Z<|aC Z<|aJ ?_;refine dK h Z (λh=>?_) λh=>?_
 ·refine aP ?_;cases h
 refine aP<|bS Z<|aC Z<|aJ ?_;refine dK h Z (λh=>?_) λh=>?_
 ·refine aP ?_;cases h
 refine aP<|bS Z<|aC Z<|aJ ?_;refine dK h Z (λh=>?_) λh=>?_
 ·refine aP ?_;cases h
 refine aP<|bS Z<|aC Z<|aJ ?_;refine dK h Z (λh=>?_) λh=>?_
 ·refine aP ?_;cases h
 refine aP<|bS Z<|aC Z<|aJ ?_;refine dK h Z (λh=>?_) λh=>?_
 ·refine aP ?_;cases h
 refine aP<|bS Z<|aC Z<|aJ ?_;refine dK h Z (λh=>?_) λh=>?_
 ·refine aP ?_;cases h
 refine aP<|bS Z<|aC Z<|aJ ?_;refine dK h Z (λh=>?_) λh=>?_
 ·refine aP ?_;cases h
 refine aP<|bS Z<|aC Z<|aJ ?_;refine dK h Z (λh=>?_) λh=>?_
 ·refine aP ?_;cases h
 refine aP<|bS Z<|aC Z<|aJ ?_;refine dK h Z (λh=>?_) λh=>?_
 ·refine aP ?_;cases h
 refine aP<|bS Z<|aC Z<|aJ ?_;refine dK h Z (λh=>?_) λh=>?_
 ·refine aP ?_;cases h
 refine dD<|lU<|aP ?_;cases h
def Is (U:Nat)  : Option VS:=
 Option.bind (uM U (ByteArray.mk #[100]) (0:Int) (15:Int) (0:Int)) λa=>(Option.bind (sV U (ByteArray.mk #[112])) λb=>(some ([(a.1,a.2.1,a.2.2.1,a.2.2.2.1,a.2.2.2.2.1,a.2.2.2.2.2),(b.1,b.2.1,b.2.2.1,b.2.2.2.1,b.2.2.2.2.1,b.2.2.2.2.2)])))
theorem aeP:aS Tryz.prog 43:=Tryz.call43
theorem Qe (U:Nat)  (r:VT) (h:Is U  = some r):
  aY Tryz.prog 43 #[] [] (λx:Value=>x) (λx l=>Ar gU x r::l) (λ_ l=>l):=by
 refine aY.of Tryz.func43 Z Tryz.ntmps43 Z λc=>?_;refine aP<|aC Z<|aJ<|aP<|dV h λa f h=>aG (zBb OU (Cp U  a f) Z .nil) Z λi=>dV h λb g h=>aG (zBb OV (Bl U  b g) Z .nil) Z λj=>aG (cQ (e:=gU) ([((a.1,a.2.1,a.2.2.1,a.2.2.2.1,a.2.2.2.2.1,a.2.2.2.2.2)),((b.1,b.2.1,b.2.2.1,b.2.2.2.1,b.2.2.2.2.1,b.2.2.2.2.2))]) [(0,Value.agg #[vS (a.1),vI (a.2.1),vI (a.2.2.1),vI (a.2.2.2.1),vI (a.2.2.2.2.1),vI (a.2.2.2.2.2)]),(1,Value.agg #[vS (b.1),vI (b.2.1),vI (b.2.2.1),vI (b.2.2.2.1),vI (b.2.2.2.2.1),vI (b.2.2.2.2.2)])] Z Z Z Z (Ma (vS (a.1)) (vI (a.2.1)) (vI (a.2.2.1)) (vI (a.2.2.2.1)) (vI (a.2.2.2.2.1)) (vI (a.2.2.2.2.2)) (vS (b.1)) (vI (b.2.1)) (vI (b.2.2.1)) (vI (b.2.2.2.1)) (vI (b.2.2.2.2.1)) (vI (b.2.2.2.2.2))) Z Z Z) Z λd=>aC Z<|aJ<|aU ?_;cases h;exact eR (d) Z Z (RV.tmp Z) (a_.refl _) aB.nil
def Iu (U:Nat)  : Option VS:=
 Option.bind (uM U (ByteArray.mk #[120]) (0:Int) (16:Int) (0:Int)) λa=>(Option.bind (sV U (ByteArray.mk #[112])) λb=>(some ([(a.1,a.2.1,a.2.2.1,a.2.2.2.1,a.2.2.2.2.1,a.2.2.2.2.2),(b.1,b.2.1,b.2.2.1,b.2.2.2.1,b.2.2.2.2.1,b.2.2.2.2.2)])))
theorem aeQ:aS Tryz.prog 44:=Tryz.call44
theorem Qf (U:Nat)  (r:VT) (h:Iu U  = some r):
  aY Tryz.prog 44 #[] [] (λx:Value=>x) (λx l=>Ar gU x r::l) (λ_ l=>l):=by
 refine aY.of Tryz.func44 Z Tryz.ntmps44 Z λc=>?_;refine aP<|aC Z<|aJ<|aP<|dV h λa f h=>aG (zBb OU (Cp U  a f) Z .nil) Z λi=>dV h λb g h=>aG (zBb OV (Bl U  b g) Z .nil) Z λj=>aG (cQ (e:=gU) ([((a.1,a.2.1,a.2.2.1,a.2.2.2.1,a.2.2.2.2.1,a.2.2.2.2.2)),((b.1,b.2.1,b.2.2.1,b.2.2.2.1,b.2.2.2.2.1,b.2.2.2.2.2))]) [(0,Value.agg #[vS (a.1),vI (a.2.1),vI (a.2.2.1),vI (a.2.2.2.1),vI (a.2.2.2.2.1),vI (a.2.2.2.2.2)]),(1,Value.agg #[vS (b.1),vI (b.2.1),vI (b.2.2.1),vI (b.2.2.2.1),vI (b.2.2.2.2.1),vI (b.2.2.2.2.2)])] Z Z Z Z (Ma (vS (a.1)) (vI (a.2.1)) (vI (a.2.2.1)) (vI (a.2.2.2.1)) (vI (a.2.2.2.2.1)) (vI (a.2.2.2.2.2)) (vS (b.1)) (vI (b.2.1)) (vI (b.2.2.1)) (vI (b.2.2.2.1)) (vI (b.2.2.2.2.1)) (vI (b.2.2.2.2.2))) Z Z Z) Z λd=>aC Z<|aJ<|aU ?_;cases h;exact eR (d) Z Z (RV.tmp Z) (a_.refl _) aB.nil
def zV (U:Nat) (a:Int):Option VS:=
 if a=(0:Int)then(Option.bind (Ir U) λc=>(some (c)))else(if a=(1:Int)then(Option.bind (Is U) λd=>(some (d)))else(if a=(2:Int)then(Option.bind (Iu U) λb=>(some (b)))else(if a=(3:Int)then(none)else(if a=(4:Int)then(none)else(if a=(5:Int)then(none)else(if a=(6:Int)then(none)else(if a=(7:Int)then(none)else(if a=(8:Int)then(none)else(if a=(9:Int)then(none)else(if a=(10:Int)then(none)else(if a=(11:Int)then(none)else(if a=(12:Int)then(none)else(if a=(13:Int)then(none)else(none))))))))))))))
theorem Fg:aS Tryz.prog 10:=Tryz.call10
theorem qK (U:Nat) {e:Int} (r:VT) (h:zV U e=some r):
  aY Tryz.prog 10 #[vI (e)] [] (λx:Value=>x) (λx l=>Ar gU x r::l) (λ_ l=>l):=by
 refine aY.of Tryz.func10 Z Tryz.ntmps10 Z λc=>?_;refine aP<|aC Z<|aJ<|aK<|aP<|aA Z<|aJ<|aR<|aP<|bS Z<|aC Z<|aJ ?_;refine dK h Z (λh=>?_) λh=>?_
 ·refine aP<|dV h λf i h=>aG (zBb aeO (Qd U  f i) Z .nil) Z λk=>aC Z<|aJ<|aU<|bN<|aH ?_;cases h;exact eR (k) Z Z (RV.tmp Z) (a_.refl _) aB.nil
 refine aP<|bS Z<|aC Z<|aJ ?_;refine dK h Z (λh=>?_) λh=>?_
 ·refine aP<|dV h λg j h=>aG (zBb aeP (Qe U  g j) Z .nil) Z λm=>aC Z<|aJ<|aU<|bN<|aH ?_;cases h;exact eR (m) Z Z (RV.tmp Z) (a_.refl _) aB.nil
 refine aP<|bS Z<|aC Z<|aJ ?_;refine dK h Z (λh=>?_) λh=>?_
 ·refine aP<|dV h λa b h=>aG (zBb aeQ (Qf U  a b) Z .nil) Z λd=>aC Z<|aJ<|aU<|bN<|aH ?_;cases h;exact eR (d) Z Z (RV.tmp Z) (a_.refl _) aB.nil
 refine aP<|bS Z<|aC Z<|aJ ?_;refine dK h Z (λh=>?_) λh=>?_
 ·refine aP ?_;cases h
 refine aP<|bS Z<|aC Z<|aJ ?_;refine dK h Z (λh=>?_) λh=>?_
 ·refine aP ?_;cases h
 refine aP<|bS Z<|aC Z<|aJ ?_;refine dK h Z (λh=>?_) λh=>?_
 ·refine aP ?_;cases h
 refine aP<|bS Z<|aC Z<|aJ ?_;refine dK h Z (λh=>?_) λh=>?_
 ·refine aP ?_;cases h
 refine aP<|bS Z<|aC Z<|aJ ?_;refine dK h Z (λh=>?_) λh=>?_
 ·refine aP ?_;cases h
 refine aP<|bS Z<|aC Z<|aJ ?_;refine dK h Z (λh=>?_) λh=>?_
 ·refine aP ?_;cases h
 refine aP<|bS Z<|aC Z<|aJ ?_;refine dK h Z (λh=>?_) λh=>?_
 ·refine aP ?_;cases h
 refine aP<|bS Z<|aC Z<|aJ ?_;refine dK h Z (λh=>?_) λh=>?_
 ·refine aP ?_;cases h
 refine aP<|bS Z<|aC Z<|aJ ?_;refine dK h Z (λh=>?_) λh=>?_
 ·refine aP ?_;cases h
 refine aP<|bS Z<|aC Z<|aJ ?_;refine dK h Z (λh=>?_) λh=>?_
 ·refine aP ?_;cases h
 refine aP<|bS Z<|aC Z<|aJ ?_;refine dK h Z (λh=>?_) λh=>?_
 ·refine aP ?_;cases h
 refine dD<|lU<|aP ?_;cases h
def AX (U:Nat) (a:b_):Option Bd:=
 Option.bind (Du U ((a.1,a.2))) λb=>(if(!b)=true then(some (((0:Int),false,false,(0:Int),(0:Int))))else(Option.bind (mP U ((a.1,a.2)) (0:Int)) λc=>(some (((3:Int),false,true,(wI .i64 (c+(1:Int))),(-1:Int))))))
theorem aeR:aS Tryz.prog 57:=Tryz.call57
theorem Sm (U:Nat) {d:b_} (a:Value)  (b:Value)  (f:jO) (r:(Int×Bool×Bool×Int×Int)) (h:AX U d=some r):
  aY Tryz.prog 57 #[Value.agg #[a,b]] [Sl bP a d.1,S2 aV b f d.2] (λx:Unit=>Value.agg #[vI (r.1),vB (r.2.1),vB (r.2.2.1),vI (r.2.2.2.1),vI (r.2.2.2.2)]) (λx l=>l) (λ_ l=>l):=by
 refine aY.of Tryz.func57 Z Tryz.ntmps57 Z λc=>?_;refine aP<|aG (aI.box (cs:=[a,b]) Z Z) Z λk=>aG (aI.alloc (cs:=VX) Z Z) Z λm=>aJ<|aK<|aP<|cA 1 Z<|dV h λg i h=>aG (zBb UI (Oo U a b f g i) Z (kA [0,1] Z)) Z λn=>aD (kB Z) Z<|aJ ?_;refine yW h Z (λ_ h=>?_) λ_ h=>?_
 ·refine aP ?_;refine aD (Fc (r:=Value.agg #[vI (0:Int),vB (false),vB (false),vI (0:Int),vI (0:Int)]) (by intro w;simp[Instr.build,Instr.fill,dX,dA,cM,dY,dZ,dB,eQ])) Z ?_;refine bK 0 (vs:=VX) Z Z Z Z Z Z<|aJ<|aU<|aH ?_;cases h;exact eR () Z Z (RV.cell 0 Z Z Z Z) .nil aB.nil
 refine cG<|aP<|cA 1 Z<|dV h λe j h=>aG (zBb abx (FJ U a b f e j) Z (kA [0,1] Z)) Z λo=>cH Z ?_;refine aD (LB (r:=Value.agg #[vI (3:Int),vB (false),vB (true),vI (wI .i64 (e+(1:Int))),vI (-1:Int)]) Z Z Z Z (by intro w;simp[Instr.build,Instr.fill,dX,dA,cM,dY,dZ,dB,eQ])) Z ?_;refine bK 0 (vs:=[vI (3:Int),vB (false),vB (true),vI (wI .i64 (e+(1:Int))),vI (-1:Int)]) Z Z Z Z Z Z<|aJ<|aU ?_;cases h;exact eR () Z Z (RV.cell 0 Z Z Z Z) .nil aB.nil
def nV (U:Nat) (a:Int) (c:b_):Option Bd:=
 if a=(0:Int)then(Option.bind (AX U ((c.1,c.2))) λd=>(some ((d.1,d.2.1,d.2.2.1,d.2.2.2.1,d.2.2.2.2))))else(if a=(1:Int)then(Option.bind (tF U ((c.1,c.2))) λe=>(some ((e.1,e.2.1,e.2.2.1,e.2.2.2.1,e.2.2.2.2))))else(if a=(2:Int)then(Option.bind (uO U ((c.1,c.2))) λb=>(some ((b.1,b.2.1,b.2.2.1,b.2.2.2.1,b.2.2.2.2))))else(if a=(3:Int)then(none)else(if a=(4:Int)then(none)else(if a=(5:Int)then(none)else(if a=(6:Int)then(none)else(if a=(7:Int)then(none)else(if a=(8:Int)then(none)else(if a=(9:Int)then(none)else(if a=(10:Int)then(none)else(if a=(11:Int)then(none)else(if a=(12:Int)then(none)else(if a=(13:Int)then(none)else(none))))))))))))))
theorem Fi:aS Tryz.prog 12:=Tryz.call12
theorem nY (U:Nat) {k:Int} {i:b_} (e:Value)  (f:Value)  (g:jO) (r:(Int×Bool×Bool×Int×Int)) (h:nV U k i=some r):
  aY Tryz.prog 12 #[vI (k),Value.agg #[e,f]] [Sl bP e i.1,S2 aV f g i.2] (λx:Unit=>Value.agg #[vI (r.1),vB (r.2.1),vB (r.2.2.1),vI (r.2.2.2.1),vI (r.2.2.2.2)]) (λx l=>l) (λ_ l=>l):=by
 refine aY.of Tryz.func12 Z Tryz.ntmps12 Z λc=>?_;refine aP<|aG (aI.box (cs:=[e,f]) Z Z) Z λq=>aG (aI.alloc (cs:=VX) Z Z) Z λs=>aJ<|aK<|aP<|aA Z<|aJ<|aR<|aP<|bS Z<|aC Z<|aJ ?_;refine dK h Z (λh=>?_) λh=>?_
 ·refine aP<|cA 1 Z<|dV h λb m h=>aG (zBb aeR (Sm U e f g b m) Z (kA [0,1] Z)) Z λt=>bK 0 (vs:=[vI (b.1),vB (b.2.1),vB (b.2.2.1),vI (b.2.2.2.1),vI (b.2.2.2.2)]) Z Z Z Z Z Z<|aJ<|aU<|bN<|aH ?_;cases h;exact eR () Z Z (RV.cell 0 Z Z Z Z) .nil aB.nil
 refine aP<|bS Z<|aC Z<|aJ ?_;refine dK h Z (λh=>?_) λh=>?_
 ·refine aP<|cA 1 Z<|dV h λd n h=>aG (zBb aeS (Nx U e f g d n) Z (kA [0,1] Z)) Z λo=>bK 0 (vs:=[vI (d.1),vB (d.2.1),vB (d.2.2.1),vI (d.2.2.2.1),vI (d.2.2.2.2)]) Z Z Z Z Z Z<|aJ<|aU<|bN<|aH ?_;cases h;exact eR () Z Z (RV.cell 0 Z Z Z Z) .nil aB.nil
 refine aP<|bS Z<|aC Z<|aJ ?_;refine dK h Z (λh=>?_) λh=>?_
 ·refine aP<|cA 1 Z<|dV h λa j h=>aG (zBb aeT (MX U e f g a j) Z (kA [0,1] Z)) Z λp=>bK 0 (vs:=[vI (a.1),vB (a.2.1),vB (a.2.2.1),vI (a.2.2.2.1),vI (a.2.2.2.2)]) Z Z Z Z Z Z<|aJ<|aU<|bN<|aH ?_;cases h;exact eR () Z Z (RV.cell 0 Z Z Z Z) .nil aB.nil
 refine aP<|bS Z<|aC Z<|aJ ?_;refine dK h Z (λh=>?_) λh=>?_
 ·refine aP<|cA 1 Z ?_;cases h
 refine aP<|bS Z<|aC Z<|aJ ?_;refine dK h Z (λh=>?_) λh=>?_
 ·refine aP<|cA 1 Z ?_;cases h
 refine aP<|bS Z<|aC Z<|aJ ?_;refine dK h Z (λh=>?_) λh=>?_
 ·refine aP<|cA 1 Z ?_;cases h
 refine aP<|bS Z<|aC Z<|aJ ?_;refine dK h Z (λh=>?_) λh=>?_
 ·refine aP<|cA 1 Z ?_;cases h
 refine aP<|bS Z<|aC Z<|aJ ?_;refine dK h Z (λh=>?_) λh=>?_
 ·refine aP<|cA 1 Z ?_;cases h
 refine aP<|bS Z<|aC Z<|aJ ?_;refine dK h Z (λh=>?_) λh=>?_
 ·refine aP<|cA 1 Z ?_;cases h
 refine aP<|bS Z<|aC Z<|aJ ?_;refine dK h Z (λh=>?_) λh=>?_
 ·refine aP<|cA 1 Z ?_;cases h
 refine aP<|bS Z<|aC Z<|aJ ?_;refine dK h Z (λh=>?_) λh=>?_
 ·refine aP<|cA 1 Z ?_;cases h
 refine aP<|bS Z<|aC Z<|aJ ?_;refine dK h Z (λh=>?_) λh=>?_
 ·refine aP<|cA 1 Z ?_;cases h
 refine aP<|bS Z<|aC Z<|aJ ?_;refine dK h Z (λh=>?_) λh=>?_
 ·refine aP<|cA 1 Z ?_;cases h
 refine aP<|bS Z<|aC Z<|aJ ?_;refine dK h Z (λh=>?_) λh=>?_
 ·refine aP<|cA 1 Z ?_;cases h
 refine dD<|lU<|aP<|cA 1 Z ?_;cases h
def pZ  (a:Bool):Option Bool:=
 some (a)
def q_ (U:Nat) (a:b_) (c:bX):Option Bool:=
 Option.bind (Du U ((a.1,a.2))) λd=>(if d=true then(Option.bind (fI U ((a.1,a.2)) c ([(a.1.length:Int),(-1:Int)])) λb=>(pZ  (b)))else(pZ  (false)))
theorem aby:aS Tryz.prog 136:=Tryz.call136
theorem GE (U:Nat) {b:b_} {o:bX} (g:Value)  (i:Value)  (m:jO)  (j:Value)  (p:sY) (r:Bool) (h:q_ U b o=some r):
  aY Tryz.prog 136 #[Value.agg #[g,i],j] [Sl bP g b.1,S2 aV i m b.2,S2 bP j p o] (λx:Unit=>vB (r)) (λx l=>l) (λ_ l=>l):=by
 refine aY.of Tryz.func136 Z Tryz.ntmps136 Z λc=>?_;refine aP<|aG (aI.box (cs:=[g,i]) Z Z) Z λv=>aC Z<|aJ<|aK<|eJ (λd=>pZ  d=some r) (λd n=>[(4,vB (d))]) (λd n=>[]) ?_ ?_
 ·refine aQ<|cA 0 Z<|dV h λq t h=>aG (zBb UI (Oo U g i m q t) Z (kA [0,1] Z)) Z λw=>aA Z ?_;refine yX (by exact rfl) (by exact rfl) (λa=>?_) (λa=>?_)
  ·have h:=Kx a h;refine aW Z (jX 0 Z Z Z Z) Z<|eG Z<|aW Z (eI Z Z Z Z Z) Z<|aW Z (d_ 0 Z Z Z Z Z) Z<|aW Z (fF Z (aE.fact 0 Z) Z) Z<|nN Z (cQ (e:=cB) ([(b.1.length:Int),(-1:Int)]) [(0,vI (b.1.length:Int)),(1,vI (-1:Int))] Z Z Z Z (Ft (vI (b.1.length:Int)) (vI (-1:Int)) Z Z) Z Z Z) Z λs=>dV h λf k h=>nN Z (zBb OX (wM U g i m j p s f k) Z (aB.cons (aE.fact 0 Z) (aB.cons (aE.fact 1 Z) (aB.cons (aE.fact 2 Z) (aB.cons (aT (aE.res 0 Z) cD) .nil))))) Z λu=>eK Z<|aC Z<|aJ ?_;exact bW (f) () h SF .nil (aB.refl _ _)
  have h:=Ju a h;refine aL Z<|aL Z<|aL Z<|aL Z<|aL Z<|aL Z<|aL Z<|fY Z<|aC Z<|aJ ?_;exact bW (false) () h SF .nil (aB.refl _ _)
 intro d n h;unfold pZ at h;refine aU ?_;cases h;exact kY Z
def BA  (a:Unit):Option Bool:=
 some (true)
def zC (U:Nat) (e:b_) (c:bX) (f:aO) (a:Int) (b:(Int)->Option Bool):Option Bool:=
 if a<(c.length:Int)then(ck (0<=a∧a<(c.length:Int)) (Option.bind (AZ U ((e.1,e.2)) a f (at' c a)) λd=>(if(!d)=true then(some (false))else(b (wI .i64 (a+(1:Int)))))))else(BA  (()))
def AY (U:Nat) (a:b_) (b:bX):Option Bool:=
 Option.bind (q_ U ((a.1,a.2)) b) λc=>(if(!c)=true then(some (false))else(Option.bind (qE U ((a.1,a.2)) (0:Int)) λd=>(bH (zC U a b d) U (0:Int))))
theorem aeU:aS Tryz.prog 72:=Tryz.call72
theorem So (U:Nat) {j:b_} {k:bX} (d:Value)  (e:Value)  (n:jO)  (m:Value)  (t:sY) (r:Bool) (h:AY U j k=some r):
  aY Tryz.prog 72 #[Value.agg #[d,e],m] [Sl bP d j.1,S2 aV e n j.2,S2 bP m t k] (λx:Unit=>vB (r)) (λx l=>l) (λ_ l=>l):=by
 refine aY.of Tryz.func72 Z Tryz.ntmps72 Z λc=>?_;refine aP<|aG (aI.box (cs:=[d,e]) Z Z) Z λu=>aC Z<|aJ<|aK<|aP<|cA 0 Z<|aA Z<|dV h λw y h=>aG (zBb aby (GE U d e n m t w y) Z (kA [0,1,2] Z)) Z λB=>aD (kB Z) Z<|aJ ?_;refine yW h Z (λ_ h=>?_) λ_ h=>?_
 ·refine aP<|aC Z<|aJ<|aU<|aH ?_;cases h;exact sB Z
 refine cG<|aP<|cA 0 Z<|dV h λp z h=>aG (zBb abz (IM U d e n p z) Z (kA [0,1] Z)) Z λs=>aC Z<|aJ<|aK<|eJ (λi=>BA  i=some r) (λi f=>[]) (λi f=>[]) ?_ ?_
 ·refine aP<|aA Z<|aD (jW Z (aE.fact 2 Z) Z) Z<|aA Z<|aJ<|aR<|eO (zC U j k p) (λa g=>[(2,vP u),(5,s),(14,m),(15,vI (k.length:Int)),(16,vI (a))]) (λa g=>[Ar cB s p,bM u [d,e] 29]) (0:Int) () h SF (a_.refl _) ?_;intro v a g h;refine aP<|cO Z<|aJ<|aK ?_;refine dK h Z (λh=>?_) λh=>?_
  ·refine cG<|aK<|aR<|aP<|aA Z<|dQ h λb h=>aD (cV Z Z (aE.fact 2 Z) Z Z b) Z<|aD (cP Z (aE.fact 2 Z) Z Z b) Z<|aC Z<|aC Z<|aJ<|aP<|cA 1 Z<|aA Z<|aA Z<|aA Z<|dV h λo q h=>aG (zBb abA (Sp U d e n s ((at' t a).1) o q) Z (aB.cons (aE.fact 0 Z) (aB.cons (aE.fact 1 Z) (aB.cons (aT (aE.res 0 Z) cD) (aB.cons (zBd (aE.fact 2 Z) b.1 b.2) .nil))))) Z λA=>aD (kB Z) Z<|aJ ?_;refine yW h Z (λ_ h=>?_) λ_ h=>?_
   ·refine aP<|aC Z<|aJ<|aU<|bN<|aH<|aH<|bN<|aH ?_;cases h;exact sB Z
   refine dD<|lU<|aQ<|cH Z<|aA Z<|aJ ?_;exact AS (wI .i64 (a+(1:Int))) () h SF Z
  refine fL ?_;exact bW () (()) h SF .nil (aB.refl _ _)
 intro i f h;unfold BA at h;refine aP<|aC Z<|aJ<|aU ?_;cases h;exact kY Z
def qS (U:Nat) (a:Int) (b:b_) (c:bX):Option Bool:=
 if a=(0:Int)then(Option.bind (AY U ((b.1,b.2)) c) λe=>(some (e)))else(if a=(1:Int)then(Option.bind (wU U ((b.1,b.2)) c) λf=>(some (f)))else(if a=(2:Int)then(Option.bind (uP U ((b.1,b.2)) c) λd=>(some (d)))else(if a=(3:Int)then(none)else(if a=(4:Int)then(none)else(if a=(5:Int)then(none)else(if a=(6:Int)then(none)else(if a=(7:Int)then(none)else(if a=(8:Int)then(none)else(if a=(9:Int)then(none)else(if a=(10:Int)then(none)else(if a=(11:Int)then(none)else(if a=(12:Int)then(none)else(if a=(13:Int)then(none)else(none))))))))))))))
theorem aeG:aS Tryz.prog 13:=Tryz.call13
theorem Nz (U:Nat) {k:Int} {g:b_} {m:bX} (a:Value)  (b:Value)  (e:jO)  (d:Value)  (f:sY) (r:Bool) (h:qS U k g m=some r):
  aY Tryz.prog 13 #[vI (k),Value.agg #[a,b],d] [Sl bP a g.1,S2 aV b e g.2,S2 bP d f m] (λx:Unit=>vB (r)) (λx l=>l) (λ_ l=>l):=by
 refine aY.of Tryz.func13 Z Tryz.ntmps13 Z λc=>?_;refine aP<|aG (aI.box (cs:=[a,b]) Z Z) Z λt=>aC Z<|aJ<|aK<|aP<|aA Z<|aJ<|aR<|aP<|bS Z<|aC Z<|aJ ?_;refine dK h Z (λh=>?_) λh=>?_
 ·refine aP<|cA 0 Z<|aA Z<|dV h λn p h=>aG (zBb aeU (So U a b e d f n p) Z (kA [0,1,2] Z)) Z λu=>aC Z<|aJ<|aU<|bN<|aH ?_;cases h;exact sB Z
 refine aP<|bS Z<|aC Z<|aJ ?_;refine dK h Z (λh=>?_) λh=>?_
 ·refine aP<|cA 0 Z<|aA Z<|dV h λo q h=>aG (zBb aeV (Ny U a b e d f o q) Z (kA [0,1,2] Z)) Z λv=>aC Z<|aJ<|aU<|bN<|aH ?_;cases h;exact sB Z
 refine aP<|bS Z<|aC Z<|aJ ?_;refine dK h Z (λh=>?_) λh=>?_
 ·refine aP<|cA 0 Z<|aA Z<|dV h λi j h=>aG (zBb aeW (MY U a b e d f i j) Z (kA [0,1,2] Z)) Z λs=>aC Z<|aJ<|aU<|bN<|aH ?_;cases h;exact sB Z
 refine aP<|bS Z<|aC Z<|aJ ?_;refine dK h Z (λh=>?_) λh=>?_
 ·refine aP<|cA 0 Z<|aA Z ?_;cases h
 refine aP<|bS Z<|aC Z<|aJ ?_;refine dK h Z (λh=>?_) λh=>?_
 ·refine aP<|cA 0 Z<|aA Z ?_;cases h
 refine aP<|bS Z<|aC Z<|aJ ?_;refine dK h Z (λh=>?_) λh=>?_
 ·refine aP<|cA 0 Z<|aA Z ?_;cases h
 refine aP<|bS Z<|aC Z<|aJ ?_;refine dK h Z (λh=>?_) λh=>?_
 ·refine aP<|cA 0 Z<|aA Z ?_;cases h
 refine aP<|bS Z<|aC Z<|aJ ?_;refine dK h Z (λh=>?_) λh=>?_
 ·refine aP<|cA 0 Z<|aA Z ?_;cases h
 refine aP<|bS Z<|aC Z<|aJ ?_;refine dK h Z (λh=>?_) λh=>?_
 ·refine aP<|cA 0 Z<|aA Z ?_;cases h
 refine aP<|bS Z<|aC Z<|aJ ?_;refine dK h Z (λh=>?_) λh=>?_
 ·refine aP<|cA 0 Z<|aA Z ?_;cases h
 refine aP<|bS Z<|aC Z<|aJ ?_;refine dK h Z (λh=>?_) λh=>?_
 ·refine aP<|cA 0 Z<|aA Z ?_;cases h
 refine aP<|bS Z<|aC Z<|aJ ?_;refine dK h Z (λh=>?_) λh=>?_
 ·refine aP<|cA 0 Z<|aA Z ?_;cases h
 refine aP<|bS Z<|aC Z<|aJ ?_;refine dK h Z (λh=>?_) λh=>?_
 ·refine aP<|cA 0 Z<|aA Z ?_;cases h
 refine aP<|bS Z<|aC Z<|aJ ?_;refine dK h Z (λh=>?_) λh=>?_
 ·refine aP<|cA 0 Z<|aA Z ?_;cases h
 refine dD<|lU<|aP<|cA 0 Z<|aA Z ?_;cases h
def xW  (a:aO):Option aO:=
 some (a)
def sX (b:bX) (c:Int) (a:aO×Int) (d:(aO×Int)->Option aO):Option aO:=
 if a.2<(b.length:Int)then(ck (0<=a.2∧a.2<(b.length:Int)) (ck (0<=c∧c<((at' b a.2).length:Int)) (ck ((a.1.length:Int)+(List.length ([(at' (at' b a.2) c)]):Int)<=1099511627) (d ((a.1++([(at' (at' b a.2) c)])),(wI .i64 (a.2+(1:Int))))))))else(xW  (a.1))
def uN (U:Nat) (a:bX) (b:Int):Option aO:=
 bH (sX a b) U (([]:aO),(0:Int))
theorem aeH:aS Tryz.prog 14:=Tryz.call14
theorem MW (U:Nat) {g:bX} {f:Int} (o:Value)  (s:sY) (r:aO) (h:uN U g f=some r):
  aY Tryz.prog 14 #[o,vI (f)] [S2 bP o s g] (λx:Value=>x) (λx l=>Ar cB x r::l) (λ_ l=>l):=by
 refine aY.of Tryz.func14 Z Tryz.ntmps14 Z λc=>?_;unfold uN at h;refine aP<|aC Z<|aJ<|aP<|aC Z<|aJ<|aK<|El (B:=Value) (λi=>xW  i=some r) (λi j=>[(5,j)]) (λi j=>[Ar cB j i]) ?_ ?_
 ·refine aP<|aC Z<|aJ<|aR<|jT (gK cB)<|eO (B:=Value) (sX g f) (λb d=>[(0,o),(1,vI (f)),(5,d),(6,vI (b.2))]) (λb d=>[Ar cB d b.1]) (([]:aO),(0:Int)) (lE) h SF (a_.refl _) ?_;intro p b d h;refine aK<|aP<|aA Z<|aA Z<|aD (jW Z (aE.fact 0 Z) Z) Z<|cO Z<|aJ ?_;refine dK h Z (λh=>?_) λh=>?_
  ·refine cG<|aK<|aR<|aQ<|aA Z<|aA Z<|aA Z<|dQ h λa h=>aD (cV Z Z (aE.fact 0 Z) Z Z a) Z<|aD (cP Z (aE.fact 0 Z) Z Z a) Z<|aA Z<|dQ h λk h=>aD (aZ Z Z (zBd (aE.fact 0 Z) a.1 a.2) Z Z k) Z<|aD (bV Z (zBd (aE.fact 0 Z) a.1 a.2) Z Z Z cT k) Z<|aG (cQ (e:=cB) ([(at' (at' g b.2) f)]) [(0,vI (at' (at' g b.2) f))] Z Z Z Z (rK (vI (at' (at' g b.2) f)) Z) Z Z Z) Z λq=>dQ h λm h=>aG (iV 1 cD Z Z Z (aT (aE.res 0 Z) cD) Z Z Z Z m Z) Z λn=>aC Z<|eV<|lU<|aQ<|aA Z<|cH Z<|aC Z<|aJ ?_;exact kO ((b.1++([(at' (at' g b.2) f)])),(wI .i64 (b.2+(1:Int)))) (n) h SF (a_.ix [1] Z Z) (aB.refl _ _)
  refine fL ?_;exact iH (b.1) (d) h SF Z
 intro i j h;unfold xW at h;refine aP<|aA Z<|aC Z<|aJ<|aU ?_;cases h;exact eR (j) Z Z (RV.tmp Z) (a_.refl _) aB.nil
end Go.Proofs.YtcnnfkapmjhnaaaGreatDoor
namespace Go.Proofs.YtcnnfkapmjhnaaaGreatDoor
open Go Go.Sx Go.Gx
set_option maxRecDepth 100000
def wJ (a:Nat):Option Bool:=some (true)
theorem Yr:aS Tryz.prog 17:=Tryz.call17
theorem YC:okT (If Eo gp2 4000 17 [] H0)=true:=by kernel_rfl
theorem GG (a:Nat) (r:Bool) (h:wJ a=some r):
  aY Tryz.prog 17 #[] [Gb 0 (cellsOf KJ AA)] (λx:Unit=>Value.bool (r)) (λx l=>l) (λ_ l=>l):=by
 obtain rfl:=Option.some.inj h;obtain⟨d,c⟩:=ZN YC;rw[Do Ad]at c;exact PI Pu Yr (λf e h=>h.bool_inv) λT b=>Ie (gs:=gl T) aiU c (gF.start b Z) .nil
end Go.Proofs.YtcnnfkapmjhnaaaGreatDoor
namespace Go.Proofs.YtcnnfkapmjhnaaaGreatDoor
open Go.Sx
def rS (U:Nat) (b:Int) (a:b_) (c:aO):Option Bool:=
 Option.bind (iQ U b ((a.1,a.2)) c) λd=>(some (decide (d.2=(0:Int))))
theorem aeI:aS Tryz.prog 18:=Tryz.call18
theorem MQ (U:Nat) {f:Int} {d:b_} {g:aO} (a:Value)  (b:Value)  (i:jO)  (e:Value) (r:Bool) (h:rS U f d g=some r):
  aY Tryz.prog 18 #[vI (f),Value.agg #[a,b],e] [Sl bP a d.1,S2 aV b i d.2,Sl bP e g] (λx:Unit=>vB (r)) (λx l=>l) (λ_ l=>l):=by
 refine aY.of Tryz.func18 Z Tryz.ntmps18 Z λc=>?_;refine aP<|aG (aI.box (cs:=[a,b]) Z Z) Z λm=>aC Z<|aJ<|aP<|aA Z<|cA 0 Z<|aA Z<|dV h λj k h=>aG (zBb Yp (FK U a b i e j k) Z (kA [0,1,2] Z)) Z λn=>aA Z<|iU Z<|iU Z<|aC Z<|aC Z<|aJ<|aP<|aA Z<|bS Z<|aC Z<|aJ<|aU ?_;cases h;exact sB Z
end Go.Proofs.YtcnnfkapmjhnaaaGreatDoor