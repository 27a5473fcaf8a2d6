/- Models and proofs. Conditions: none. -/
import Derived.Test.YtcnnfkapmjhnaaaGreatDoorZTTr5
import Derived.Test.YtcnnfkapmjhnaaaGreatDoorZTTr8
import Derived.Test.YtcnnfkapmjhnaaaGreatDoorZTTr10
import Derived.Test.YtcnnfkapmjhnaaaGreatDoorZTTr12
import Derived.Test.YtcnnfkapmjhnaaaGreatDoorZTTr11
import Derived.Test.YtcnnfkapmjhnaaaGreatDoorZTTr1
import Derived.OpenShut
import Derived.Test.YtcnnfkapmjhnaaaGreatDoorZTTr2
import Derived.LaidLaws
import Derived.LaidHandle
import Derived.Lay
import Derived.MakeChecks
set_option linter.unusedVariables false
set_option linter.unusedSimpArgs false
set_option maxHeartbeats 4000000
set_option maxRecDepth 20000
namespace Go.Proofs.YtcnnfkapmjhnaaaGreatDoor
open Go.Sx
noncomputable def gT  (a:Bool):Option Bool:=
 some (a)
noncomputable def mF (U:Nat) (b:EK) (a:cC×aO):Option Bool:=
 Option.bind (wJ U) λc=>(if c=true then(Option.bind (rS U (1:Int) ((b.1,b.2)) a.2) λd=>(if d=true then(gT  (true))else(Option.bind (j_ U (1:Int) ((b.1,b.2)) a.2 a.1) λe=>(gT  (decide (e≠(0:Int)))))))else(gT  (false)))
noncomputable def jL (c:Int×cC×aO) (b:(Int×cC×aO)->Option Bool) (a:aO×cC):Option Bool:=
 b ((wI .i64 (c.1+(1:Int))),a.2,a.1)
noncomputable def jM (d:cC) (a:Int×cC×aO) (b:(Int×cC×aO)->Option Bool) (c:aO):Option Bool:=
 if a.1<(d.length:Int)then(ck (0<=a.1∧a.1<(d.length:Int)) (ck (0<=a.1∧a.1<(a.2.1.length:Int)) (jL a b (c,(List.set a.2.1 (Int.toNat a.1) (((at' d a.1).1),((at' d a.1).2)))))))else(jL a b (c,a.2.1))
noncomputable def jN (U:Nat) (e:aO) (f:cC) (g:EK) (a:Int×cC×aO) (b:(Int×cC×aO)->Option Bool) (c:Bool):Option Bool:=
 if c=true then(ck (0<=a.1∧a.1<(e.length:Int)) (ck (0<=a.1∧a.1<(g.2.length:Int)) (Option.bind (gA U (at' e a.1) (wI .i64 (((at' g.2 a.1).length:Int)+(1:Int)))) λd=>(ck (0<=a.1∧a.1<(a.2.2.length:Int)) (jM f a b (List.set a.2.2 (Int.toNat a.1) (wI .i64 (d - (1:Int)))))))))else(jM f a b (a.2.2))
noncomputable def eS (U:Nat) (d:aO) (e:cC) (c:EK) (a:Int×cC×aO) (b:(Int×cC×aO)->Option Bool):Option Bool:=
 if a.1<(c.2.length:Int)then(ck (0<=a.1∧a.1<(a.2.1.length:Int)) (ck (0<=(0:Int)∧(0:Int)<(c.1.length:Int)) (if((at' a.2.1 a.1).1)≠(at' c.1 (0:Int))then(some (false))else(if a.1<(d.length:Int)then(ck (0<=a.1∧a.1<(d.length:Int)) (jN U d e c a b (decide ((at' d a.1)≠(0:Int)))))else(jN U d e c a b (false))))))else(mF U c (a.2.1,a.2.2))
noncomputable def jK (U:Nat) (d:aO) (e:cC) (f:EK) (b:aO) (c:cC×Int) (a:Bool):Option Bool:=
 if a=true then(some (false))else(bH (eS U d e f) U ((0:Int),c.1,b))
noncomputable def mE (U:Nat) (f:aO) (g:cC) (c:EK) (d:VR) (e:Bool):Option Bool:=
 if e=true then(some (false))else(Option.bind (uN U d.2.2.2.2.2.2.2.2 (1:Int)) λb=>(Option.bind (iQ U (1:Int) ((c.1,c.2)) b) λa=>(if a.2≠(0:Int)then(jK U f g c b a (true))else(if(a.1.length:Int)≠(c.2.length:Int)then(jK U f g c b a (true))else(Option.bind (j_ U (1:Int) ((c.1,c.2)) b a.1) λh=>(jK U f g c b a (decide (h≠(0:Int)))))))))
noncomputable def mD (U:Nat) (d:aO) (e:cC) (f:Int) (c:EK) (a:VR):Option Bool:=
 if a.1≠(0:Int)then(mE U d e c a (true))else(Option.bind (qS U f ((c.1,c.2)) a.2.2.2.2.2.2.2.2) λb=>(mE U d e c a ((!b))))
noncomputable def rU (U:Nat) (l:Int) (d:EU) (m:aO) (n:aO) (o:cC):Option Bool:=
 Option.bind (gA U l (3:Int)) λk=>(Option.bind (kG U ((d.1,d.2.1,d.2.2.1,d.2.2.2.1,d.2.2.2.2.1,d.2.2.2.2.2)) (6:Int)) λc=>(Option.bind (zU U k) λe=>(Option.bind (jS U e) λb=>Yi b.2.2 λj=>(Option.bind (zV U k) λf=>(Option.bind (kS U ((c.1,c.2)) f m) λg=>(Option.bind (nV U k ((c.1,c.2))) λh=>(Option.bind (mQ U ([]:aO) h.2.2.2.1) λi=>(Option.bind (mB U ((b.1,b.2.1,j)) ((c.1,c.2)) (4:Int) g i) λa=>(mD U n o k c (a.2,a.1.2.2.2.1,a.1.2.2.2.2.1,a.1.2.2.2.2.2.1,a.1.2.2.2.2.2.2.1,a.1.2.2.2.2.2.2.2,a.1.1,a.1.2.1,a.1.2.2.1))))))))))
theorem DF (U:Nat) {p0:Int} {p1:EU} {p2:aO} {p3:aO} {p4:cC} (v0:Value)  (v1:Value)  (v2:Value)  (v3:Value)  (v4:Value)  (v5:Value) (r:Bool) (h:rU U p0 p1 p2 p3 p4=some r):
  aY Tryz.prog 3 #[vI (p0),Value.agg #[vI (p1.1),v0,v1,v2,vB (p1.2.2.2.2.1),vB (p1.2.2.2.2.2)],v3,v4,v5] [Sl bP v0 p1.2.1,Sl bP v1 p1.2.2.1,Sl bP v2 p1.2.2.2.1,Sl bP v3 p2,Sl bP v4 p3,Sl aV v5 p4,Gb 0 (cellsOf KJ AA)] (λx:Unit=>vB (r)) (λx l=>l) (λ_ l=>l):=by
 refine aY.of Tryz.func3 Z Tryz.ntmps3 Z λc=>?_;refine aP<|aG (aI.box (cs:=[vI (p1.1),v0,v1,v2,vB (p1.2.2.2.2.1),vB (p1.2.2.2.2.2)]) Z Z) Z λb1=>aC Z<|aJ<|aP<|aA Z<|dV h λr2 w3 h=>aG (zBb GQ (jJ U  r2 w3) Z .nil) Z λx4=>aC Z<|aJ<|aP<|cA 0 Z<|dV h λg w6 h=>aG (zBb agT (DD U v0 v1 v2 g w6) Z (kA [0,1,2] Z)) Z λb=>aG (aI.alloc (cs:=[lE,lE]) Z Z) Z λN=>dH (Know.one ((aT (aE.res 1 Z) cD))) λc8=>dH (Know.one (aE.sl (bE (i:=2) (j:=3) Z Z bD))) λcn=>bK 0 (vs:=[b.1,b.2.1]) Z Z (eB c8 (eB cn Z)) Z Z Z<|aJ<|aP<|bY Z<|cR 0 Z<|aD (jW Z (bE (i:=2) (j:=3) Z Z bD) Z) Z<|aC Z<|aJ<|aK<|El (B:=Nat×Value×Value×Value×List Value) (λm=>mD U p3 p4 r2 g m=some r) (λm k=>[(3,v4),(4,v5),(11,vI (r2)),(12,vP N),(13,vI (g.2.length:Int)),(14,vP k.1),(15,vI (m.1))]) (λm k=>[bM k.1 [k.2.1,k.2.2.1,k.2.2.2.1,vI (m.2.1),vI (m.2.2.1),vI (m.2.2.2.1),vI (m.2.2.2.2.1),vU (m.2.2.2.2.2.1)] 37,Ar pX k.2.1 m.2.2.2.2.2.2.1,Ar pX k.2.2.1 m.2.2.2.2.2.2.2.1,Ar fQ.raw k.2.2.2.1 k.2.2.2.2,nH cB k.2.2.2.2 m.2.2.2.2.2.2.2.2,bM N [b.1,b.2.1] 29,Ar cB b.1 g.1,Ar fQ.raw b.2.1 b.2.2,nH bT b.2.2 g.2]) ?_ ?_
 ·have⟨r104,w105,h⟩:=bnd h;refine dV h λC D h=>Jc [0,1,3,0,0,0,39,0,247,0,0,2039,4087,8183,16383,32767,65535,65535,0,393215,1048575] 20 [[0,3,4,5,7,9,10,1,2,6,8,11,12,13,14,15,16,17,18,19,20],[0,3,4,5,7,9,10,1,2,6,8,11,12,13,18,14,15,16,17,19,20],[0,3,4,5,7,9,10,1,2,6,8,11,12,18,13,14,15,16,17,19,20],[0,3,4,5,7,9,10,1,2,6,8,18,11,12,13,14,15,16,17,19,20],[0,3,4,5,7,9,10,1,2,6,18,8,11,12,13,14,15,16,17,19,20],[0,3,4,5,7,9,10,1,2,18,6,8,11,12,13,14,15,16,17,19,20],[0,3,4,5,7,9,10,1,18,2,6,8,11,12,13,14,15,16,17,19,20],[0,3,4,5,7,9,10,18,1,2,6,8,11,12,13,14,15,16,17,19,20]] mixedOrders (by decide +kernel) (YF (by decide +kernel)) ?_;intro o ho;simp only[zAk,zB3,or_false]at ho;rcases ho with rfl|rfl|rfl|rfl|rfl|rfl|rfl|rfl
  ·refine bA Z<|fX 0 Z<|fX 0 Z<|bA Z<|bA Z<|bA Z<|fX 0 Z<|zBc Z Z Z (zBb Kc (qJ U  r104 w105) Z .nil) Z (λcz=>(jD [([0],[]),([0],[]),([0],[])] Z)) λcz=>zBc Z Z Z (aI.call Fj (lB U C D) Z (hZ 6 Z) (λ_ _=>rfl) (λ_ _=>rfl)) Z (fun⟨ah,ai,e,X⟩=>(jD [([0],[]),([0],[]),([0],[])] Z)) fun⟨ah,ai,e,X⟩=>?_;have h:=yN h e X;refine dV h λn s h=>zBc Z Z Z (zBb Fg (qK U  n s) Z .nil) Z (λbe=>(jD [([1],[]),([1],[]),([1],[])] Z)) λbe=>dV h λd t h=>zBc Z Z Z (zBb Kd (mR U b.1 b.2.1 (List.zip b.2.2 g.2) be v3 d t) Z (aB.cons (aT (aE.res 2 Z) cD) (aB.cons (bE (i:=3) (j:=4) Z Z bD) (aB.cons (aT (aE.res 0 Z) fH) (kA [6] Z))))) Z (λaj=>(jD [([3],[]),([3],[])] Z)) λaj=>dV h λp u h=>zBc Z Z Z (zBb Fi (nY U b.1 b.2.1 (List.zip b.2.2 g.2) p u) Z (aB.cons (aT (aE.res 4 Z) cD) (aB.cons (bE (i:=5) (j:=6) Z Z bD) .nil))) Z (λcE=>(jD [([3],[])] Z)) λcE=>gO Z (AR Z Z Z Z Z Z)<|dV h λq v h=>zBc Z Z Z (zBb Fh (mS U (lE) q v) Z (aB.cons aE.nil .nil)) Z (λbf=>(jD [([4],[])] Z)) λbf=>dV h λa w h=>zBc Z Z Z (zBb Kb (qI U ah ai b.1 b.2.1 (List.zip b.2.2 g.2) aj.1 (List.zip aj.2 d) bf a w) Z (aB.cons (aE.fact 0 Z) (aB.cons (aE.fact 1 Z) (aB.cons (aE.fact 2 Z) (aB.cons (aT (aE.res 5 Z) cD) (aB.cons (bE (i:=6) (j:=7) Z Z bD) (aB.cons (bE (i:=1) (j:=2) Z Z cD) (aB.cons (aT (aE.res 0 Z) mU) (kA [9] Z))))))))) Z (λE=>(jD [] Z)) λE=>gO Z (gN Z)<|gO Z (fZ Z Z)<|gO Z (fZ Z Z)<|zBc Z Z Z (aI.alloc (cs:=GI) Z Z) Z (λa5=>(jD [([9],[]),([9],[]),([9],[])] Z)) λa5=>cL (Know.one ((aT (aE.res 1 Z) mU))) λbu=>cL (Know.one ((aT (aE.res 2 Z) mU))) λbw=>cL (Know.one (aE.sl (bE (i:=3) (j:=4) Z Z cD))) λbx=>oG Z Z Z (nU 0 (vs:=[E.1,E.2.1,E.2.2.1,vI (a.1.2.2.2.1),vI (a.1.2.2.2.2.1),vI (a.1.2.2.2.2.2.1),vI (a.1.2.2.2.2.2.2.1),vU (a.1.2.2.2.2.2.2.2)]) Z Z (eB bu (eB bw (eB bx (eB Z (eB Z (eB Z (eB Z (eB Z Z)))))))) Z Z Z) (λcF=>(jD [] Z)) λcF=>bR 20 Z Z<|aC Z<|aJ ?_;exact bW (a.2,a.1.2.2.2.1,a.1.2.2.2.2.1,a.1.2.2.2.2.2.1,a.1.2.2.2.2.2.2.1,a.1.2.2.2.2.2.2.2,a.1.1,a.1.2.1,a.1.2.2.1) (a5,E.1,E.2.1,E.2.2.1,E.2.2.2) h SF (a_.ix [0,1,2,3,4,9,10,11,12] Z Z) (kA [3,4,5,6,7,8,9] Z)
  ·refine bA Z<|fX 0 Z<|fX 0 Z<|bA Z<|bA Z<|bA Z<|fX 0 Z<|zBc Z Z Z (zBb Kc (qJ U  r104 w105) Z .nil) Z (λcI=>(jD [([0],[]),([0],[]),([0],[])] Z)) λcI=>zBc Z Z Z (aI.call Fj (lB U C D) Z (hZ 6 Z) (λ_ _=>rfl) (λ_ _=>rfl)) Z (fun⟨ak,al,e,Y⟩=>(jD [([0],[]),([0],[]),([0],[])] Z)) fun⟨ak,al,e,Y⟩=>?_;have h:=yN h e Y;refine dV h λn s h=>zBc Z Z Z (zBb Fg (qK U  n s) Z .nil) Z (λbg=>(jD [([1],[]),([1],[]),([1],[])] Z)) λbg=>dV h λd t h=>zBc Z Z Z (zBb Kd (mR U b.1 b.2.1 (List.zip b.2.2 g.2) bg v3 d t) Z (aB.cons (aT (aE.res 2 Z) cD) (aB.cons (bE (i:=3) (j:=4) Z Z bD) (aB.cons (aT (aE.res 0 Z) fH) (kA [6] Z))))) Z (λam=>(jD [([3],[]),([3],[])] Z)) λam=>dV h λp u h=>zBc Z Z Z (zBb Fi (nY U b.1 b.2.1 (List.zip b.2.2 g.2) p u) Z (aB.cons (aT (aE.res 4 Z) cD) (aB.cons (bE (i:=5) (j:=6) Z Z bD) .nil))) Z (λcJ=>(jD [([3],[])] Z)) λcJ=>gO Z (AR Z Z Z Z Z Z)<|dV h λq v h=>zBc Z Z Z (zBb Fh (mS U (lE) q v) Z (aB.cons aE.nil .nil)) Z (λbh=>(jD [([4],[])] Z)) λbh=>zBc Z Z Z (aI.alloc (cs:=GI) Z Z) Z (λa6=>(jD [([5],[]),([5],[]),([5],[])] Z)) λa6=>dV h λa w h=>zBc Z Z Z (zBb Kb (qI U ak al b.1 b.2.1 (List.zip b.2.2 g.2) am.1 (List.zip am.2 d) bh a w) Z (aB.cons (aE.fact 0 Z) (aB.cons (aE.fact 1 Z) (aB.cons (aE.fact 2 Z) (aB.cons (aT (aE.res 6 Z) cD) (aB.cons (bE (i:=7) (j:=8) Z Z bD) (aB.cons (bE (i:=2) (j:=3) Z Z cD) (aB.cons (aT (aE.res 1 Z) mU) (kA [9] Z))))))))) Z (λF=>(jD [] Z)) λF=>gO Z (gN Z)<|gO Z (fZ Z Z)<|gO Z (fZ Z Z)<|cL (Know.one ((aT (aE.res 0 Z) mU))) λbz=>cL (Know.one ((aT (aE.res 1 Z) mU))) λbB=>cL (Know.one (aE.sl (bE (i:=2) (j:=3) Z Z cD))) λbC=>oG Z Z Z (nU 4 (vs:=[F.1,F.2.1,F.2.2.1,vI (a.1.2.2.2.1),vI (a.1.2.2.2.2.1),vI (a.1.2.2.2.2.2.1),vI (a.1.2.2.2.2.2.2.1),vU (a.1.2.2.2.2.2.2.2)]) Z Z (eB bz (eB bB (eB bC (eB Z (eB Z (eB Z (eB Z (eB Z Z)))))))) Z Z Z) (λcK=>(jD [] Z)) λcK=>bR 20 Z Z<|aC Z<|aJ ?_;exact bW (a.2,a.1.2.2.2.1,a.1.2.2.2.2.1,a.1.2.2.2.2.2.1,a.1.2.2.2.2.2.2.1,a.1.2.2.2.2.2.2.2,a.1.1,a.1.2.1,a.1.2.2.1) (a6,F.1,F.2.1,F.2.2.1,F.2.2.2) h SF (a_.ix [4,0,1,2,3,9,10,11,12] Z Z) (kA [3,4,5,6,7,8,9] Z)
  ·refine bA Z<|fX 0 Z<|fX 0 Z<|bA Z<|bA Z<|bA Z<|fX 0 Z<|zBc Z Z Z (zBb Kc (qJ U  r104 w105) Z .nil) Z (λcM=>(jD [([0],[]),([0],[]),([0],[])] Z)) λcM=>zBc Z Z Z (aI.call Fj (lB U C D) Z (hZ 6 Z) (λ_ _=>rfl) (λ_ _=>rfl)) Z (fun⟨an,ao,e,aa⟩=>(jD [([0],[]),([0],[]),([0],[])] Z)) fun⟨an,ao,e,aa⟩=>?_;have h:=yN h e aa;refine dV h λn s h=>zBc Z Z Z (zBb Fg (qK U  n s) Z .nil) Z (λbi=>(jD [([1],[]),([1],[]),([1],[])] Z)) λbi=>dV h λd t h=>zBc Z Z Z (zBb Kd (mR U b.1 b.2.1 (List.zip b.2.2 g.2) bi v3 d t) Z (aB.cons (aT (aE.res 2 Z) cD) (aB.cons (bE (i:=3) (j:=4) Z Z bD) (aB.cons (aT (aE.res 0 Z) fH) (kA [6] Z))))) Z (λap=>(jD [([3],[]),([3],[])] Z)) λap=>dV h λp u h=>zBc Z Z Z (zBb Fi (nY U b.1 b.2.1 (List.zip b.2.2 g.2) p u) Z (aB.cons (aT (aE.res 4 Z) cD) (aB.cons (bE (i:=5) (j:=6) Z Z bD) .nil))) Z (λcN=>(jD [([3],[])] Z)) λcN=>gO Z (AR Z Z Z Z Z Z)<|zBc Z Z Z (aI.alloc (cs:=GI) Z Z) Z (λa7=>(jD [([4],[]),([4],[]),([4],[])] Z)) λa7=>dV h λq v h=>zBc Z Z Z (zBb Fh (mS U (lE) q v) Z (aB.cons aE.nil .nil)) Z (λbj=>(jD [([5],[])] Z)) λbj=>dV h λa w h=>zBc Z Z Z (zBb Kb (qI U an ao b.1 b.2.1 (List.zip b.2.2 g.2) ap.1 (List.zip ap.2 d) bj a w) Z (aB.cons (aE.fact 0 Z) (aB.cons (aE.fact 1 Z) (aB.cons (aE.fact 2 Z) (aB.cons (aT (aE.res 6 Z) cD) (aB.cons (bE (i:=7) (j:=8) Z Z bD) (aB.cons (bE (i:=2) (j:=3) Z Z cD) (aB.cons (aT (aE.res 0 Z) mU) (kA [9] Z))))))))) Z (λG=>(jD [] Z)) λG=>gO Z (gN Z)<|gO Z (fZ Z Z)<|gO Z (fZ Z Z)<|cL (Know.one ((aT (aE.res 0 Z) mU))) λbF=>cL (Know.one ((aT (aE.res 1 Z) mU))) λbI=>cL (Know.one (aE.sl (bE (i:=2) (j:=3) Z Z cD))) λbJ=>oG Z Z Z (nU 5 (vs:=[G.1,G.2.1,G.2.2.1,vI (a.1.2.2.2.1),vI (a.1.2.2.2.2.1),vI (a.1.2.2.2.2.2.1),vI (a.1.2.2.2.2.2.2.1),vU (a.1.2.2.2.2.2.2.2)]) Z Z (eB bF (eB bI (eB bJ (eB Z (eB Z (eB Z (eB Z (eB Z Z)))))))) Z Z Z) (λcP=>(jD [] Z)) λcP=>bR 20 Z Z<|aC Z<|aJ ?_;exact bW (a.2,a.1.2.2.2.1,a.1.2.2.2.2.1,a.1.2.2.2.2.2.1,a.1.2.2.2.2.2.2.1,a.1.2.2.2.2.2.2.2,a.1.1,a.1.2.1,a.1.2.2.1) (a7,G.1,G.2.1,G.2.2.1,G.2.2.2) h SF (a_.ix [5,0,1,2,3,9,10,11,12] Z Z) (kA [3,4,5,6,7,8,9] Z)
  ·refine bA Z<|fX 0 Z<|fX 0 Z<|bA Z<|bA Z<|bA Z<|fX 0 Z<|zBc Z Z Z (zBb Kc (qJ U  r104 w105) Z .nil) Z (λcQ=>(jD [([0],[]),([0],[]),([0],[])] Z)) λcQ=>zBc Z Z Z (aI.call Fj (lB U C D) Z (hZ 6 Z) (λ_ _=>rfl) (λ_ _=>rfl)) Z (fun⟨aq,ar,e,ab⟩=>(jD [([0],[]),([0],[]),([0],[])] Z)) fun⟨aq,ar,e,ab⟩=>?_;have h:=yN h e ab;refine dV h λn s h=>zBc Z Z Z (zBb Fg (qK U  n s) Z .nil) Z (λbk=>(jD [([1],[]),([1],[]),([1],[])] Z)) λbk=>dV h λd t h=>zBc Z Z Z (zBb Kd (mR U b.1 b.2.1 (List.zip b.2.2 g.2) bk v3 d t) Z (aB.cons (aT (aE.res 2 Z) cD) (aB.cons (bE (i:=3) (j:=4) Z Z bD) (aB.cons (aT (aE.res 0 Z) fH) (kA [6] Z))))) Z (λau=>(jD [([3],[]),([3],[])] Z)) λau=>zBc Z Z Z (aI.alloc (cs:=GI) Z Z) Z (λa8=>(jD [([4],[]),([4],[]),([4],[])] Z)) λa8=>dV h λp u h=>zBc Z Z Z (zBb Fi (nY U b.1 b.2.1 (List.zip b.2.2 g.2) p u) Z (aB.cons (aT (aE.res 5 Z) cD) (aB.cons (bE (i:=6) (j:=7) Z Z bD) .nil))) Z (λcS=>(jD [([4],[])] Z)) λcS=>gO Z (AR Z Z Z Z Z Z)<|dV h λq v h=>zBc Z Z Z (zBb Fh (mS U (lE) q v) Z (aB.cons aE.nil .nil)) Z (λbl=>(jD [([5],[])] Z)) λbl=>dV h λa w h=>zBc Z Z Z (zBb Kb (qI U aq ar b.1 b.2.1 (List.zip b.2.2 g.2) au.1 (List.zip au.2 d) bl a w) Z (aB.cons (aE.fact 0 Z) (aB.cons (aE.fact 1 Z) (aB.cons (aE.fact 2 Z) (aB.cons (aT (aE.res 6 Z) cD) (aB.cons (bE (i:=7) (j:=8) Z Z bD) (aB.cons (bE (i:=2) (j:=3) Z Z cD) (aB.cons (aT (aE.res 0 Z) mU) (kA [9] Z))))))))) Z (λH=>(jD [] Z)) λH=>gO Z (gN Z)<|gO Z (fZ Z Z)<|gO Z (fZ Z Z)<|cL (Know.one ((aT (aE.res 0 Z) mU))) λbL=>cL (Know.one ((aT (aE.res 1 Z) mU))) λbO=>cL (Know.one (aE.sl (bE (i:=2) (j:=3) Z Z cD))) λbQ=>oG Z Z Z (nU 5 (vs:=[H.1,H.2.1,H.2.2.1,vI (a.1.2.2.2.1),vI (a.1.2.2.2.2.1),vI (a.1.2.2.2.2.2.1),vI (a.1.2.2.2.2.2.2.1),vU (a.1.2.2.2.2.2.2.2)]) Z Z (eB bL (eB bO (eB bQ (eB Z (eB Z (eB Z (eB Z (eB Z Z)))))))) Z Z Z) (λcU=>(jD [] Z)) λcU=>bR 20 Z Z<|aC Z<|aJ ?_;exact bW (a.2,a.1.2.2.2.1,a.1.2.2.2.2.1,a.1.2.2.2.2.2.1,a.1.2.2.2.2.2.2.1,a.1.2.2.2.2.2.2.2,a.1.1,a.1.2.1,a.1.2.2.1) (a8,H.1,H.2.1,H.2.2.1,H.2.2.2) h SF (a_.ix [5,0,1,2,3,9,10,11,12] Z Z) (kA [3,4,5,6,7,8,9] Z)
  ·refine bA Z<|fX 0 Z<|fX 0 Z<|bA Z<|bA Z<|bA Z<|fX 0 Z<|zBc Z Z Z (zBb Kc (qJ U  r104 w105) Z .nil) Z (λcV=>(jD [([0],[]),([0],[]),([0],[])] Z)) λcV=>zBc Z Z Z (aI.call Fj (lB U C D) Z (hZ 6 Z) (λ_ _=>rfl) (λ_ _=>rfl)) Z (fun⟨av,aw,e,ac⟩=>(jD [([0],[]),([0],[]),([0],[])] Z)) fun⟨av,aw,e,ac⟩=>?_;have h:=yN h e ac;refine dV h λn s h=>zBc Z Z Z (zBb Fg (qK U  n s) Z .nil) Z (λbm=>(jD [([1],[]),([1],[]),([1],[])] Z)) λbm=>zBc Z Z Z (aI.alloc (cs:=GI) Z Z) Z (λa9=>(jD [([2],[]),([2],[]),([2],[])] Z)) λa9=>dV h λd t h=>zBc Z Z Z (zBb Kd (mR U b.1 b.2.1 (List.zip b.2.2 g.2) bm v3 d t) Z (aB.cons (aT (aE.res 3 Z) cD) (aB.cons (bE (i:=4) (j:=5) Z Z bD) (aB.cons (aT (aE.res 1 Z) fH) (kA [6] Z))))) Z (λax=>(jD [([4],[]),([4],[])] Z)) λax=>dV h λp u h=>zBc Z Z Z (zBb Fi (nY U b.1 b.2.1 (List.zip b.2.2 g.2) p u) Z (aB.cons (aT (aE.res 5 Z) cD) (aB.cons (bE (i:=6) (j:=7) Z Z bD) .nil))) Z (λcW=>(jD [([4],[])] Z)) λcW=>gO Z (AR Z Z Z Z Z Z)<|dV h λq v h=>zBc Z Z Z (zBb Fh (mS U (lE) q v) Z (aB.cons aE.nil .nil)) Z (λbn=>(jD [([5],[])] Z)) λbn=>dV h λa w h=>zBc Z Z Z (zBb Kb (qI U av aw b.1 b.2.1 (List.zip b.2.2 g.2) ax.1 (List.zip ax.2 d) bn a w) Z (aB.cons (aE.fact 0 Z) (aB.cons (aE.fact 1 Z) (aB.cons (aE.fact 2 Z) (aB.cons (aT (aE.res 6 Z) cD) (aB.cons (bE (i:=7) (j:=8) Z Z bD) (aB.cons (bE (i:=1) (j:=2) Z Z cD) (aB.cons (aT (aE.res 0 Z) mU) (kA [9] Z))))))))) Z (λI=>(jD [] Z)) λI=>gO Z (gN Z)<|gO Z (fZ Z Z)<|gO Z (fZ Z Z)<|cL (Know.one ((aT (aE.res 0 Z) mU))) λbS=>cL (Know.one ((aT (aE.res 1 Z) mU))) λbU=>cL (Know.one (aE.sl (bE (i:=2) (j:=3) Z Z cD))) λbX=>oG Z Z Z (nU 7 (vs:=[I.1,I.2.1,I.2.2.1,vI (a.1.2.2.2.1),vI (a.1.2.2.2.2.1),vI (a.1.2.2.2.2.2.1),vI (a.1.2.2.2.2.2.2.1),vU (a.1.2.2.2.2.2.2.2)]) Z Z (eB bS (eB bU (eB bX (eB Z (eB Z (eB Z (eB Z (eB Z Z)))))))) Z Z Z) (λcX=>(jD [] Z)) λcX=>bR 20 Z Z<|aC Z<|aJ ?_;exact bW (a.2,a.1.2.2.2.1,a.1.2.2.2.2.1,a.1.2.2.2.2.2.1,a.1.2.2.2.2.2.2.1,a.1.2.2.2.2.2.2.2,a.1.1,a.1.2.1,a.1.2.2.1) (a9,I.1,I.2.1,I.2.2.1,I.2.2.2) h SF (a_.ix [7,0,1,2,3,9,10,11,12] Z Z) (kA [3,4,5,6,7,8,9] Z)
  ·refine bA Z<|fX 0 Z<|fX 0 Z<|bA Z<|bA Z<|bA Z<|fX 0 Z<|zBc Z Z Z (zBb Kc (qJ U  r104 w105) Z .nil) Z (λcY=>(jD [([0],[]),([0],[]),([0],[])] Z)) λcY=>zBc Z Z Z (aI.call Fj (lB U C D) Z (hZ 6 Z) (λ_ _=>rfl) (λ_ _=>rfl)) Z (fun⟨ay,az,e,ad⟩=>(jD [([0],[]),([0],[]),([0],[])] Z)) fun⟨ay,az,e,ad⟩=>?_;have h:=yN h e ad;refine zBc Z Z Z (aI.alloc (cs:=GI) Z Z) Z (λba=>(jD [([1],[]),([1],[]),([1],[])] Z)) λba=>dV h λn s h=>zBc Z Z Z (zBb Fg (qK U  n s) Z .nil) Z (λbo=>(jD [([2],[]),([2],[]),([2],[])] Z)) λbo=>dV h λd t h=>zBc Z Z Z (zBb Kd (mR U b.1 b.2.1 (List.zip b.2.2 g.2) bo v3 d t) Z (aB.cons (aT (aE.res 3 Z) cD) (aB.cons (bE (i:=4) (j:=5) Z Z bD) (aB.cons (aT (aE.res 0 Z) fH) (kA [6] Z))))) Z (λaF=>(jD [([4],[]),([4],[])] Z)) λaF=>dV h λp u h=>zBc Z Z Z (zBb Fi (nY U b.1 b.2.1 (List.zip b.2.2 g.2) p u) Z (aB.cons (aT (aE.res 5 Z) cD) (aB.cons (bE (i:=6) (j:=7) Z Z bD) .nil))) Z (λc0=>(jD [([4],[])] Z)) λc0=>gO Z (AR Z Z Z Z Z Z)<|dV h λq v h=>zBc Z Z Z (zBb Fh (mS U (lE) q v) Z (aB.cons aE.nil .nil)) Z (λbp=>(jD [([5],[])] Z)) λbp=>dV h λa w h=>zBc Z Z Z (zBb Kb (qI U ay az b.1 b.2.1 (List.zip b.2.2 g.2) aF.1 (List.zip aF.2 d) bp a w) Z (aB.cons (aE.fact 0 Z) (aB.cons (aE.fact 1 Z) (aB.cons (aE.fact 2 Z) (aB.cons (aT (aE.res 6 Z) cD) (aB.cons (bE (i:=7) (j:=8) Z Z bD) (aB.cons (bE (i:=1) (j:=2) Z Z cD) (aB.cons (aT (aE.res 0 Z) mU) (kA [9] Z))))))))) Z (λJ=>(jD [] Z)) λJ=>gO Z (gN Z)<|gO Z (fZ Z Z)<|gO Z (fZ Z Z)<|cL (Know.one ((aT (aE.res 0 Z) mU))) λb0=>cL (Know.one ((aT (aE.res 1 Z) mU))) λb2=>cL (Know.one (aE.sl (bE (i:=2) (j:=3) Z Z cD))) λb3=>oG Z Z Z (nU 8 (vs:=[J.1,J.2.1,J.2.2.1,vI (a.1.2.2.2.1),vI (a.1.2.2.2.2.1),vI (a.1.2.2.2.2.2.1),vI (a.1.2.2.2.2.2.2.1),vU (a.1.2.2.2.2.2.2.2)]) Z Z (eB b0 (eB b2 (eB b3 (eB Z (eB Z (eB Z (eB Z (eB Z Z)))))))) Z Z Z) (λc1=>(jD [] Z)) λc1=>bR 20 Z Z<|aC Z<|aJ ?_;exact bW (a.2,a.1.2.2.2.1,a.1.2.2.2.2.1,a.1.2.2.2.2.2.1,a.1.2.2.2.2.2.2.1,a.1.2.2.2.2.2.2.2,a.1.1,a.1.2.1,a.1.2.2.1) (ba,J.1,J.2.1,J.2.2.1,J.2.2.2) h SF (a_.ix [8,0,1,2,3,9,10,11,12] Z Z) (kA [3,4,5,6,7,8,9] Z)
  ·refine bA Z<|fX 0 Z<|fX 0 Z<|bA Z<|bA Z<|bA Z<|fX 0 Z<|zBc Z Z Z (zBb Kc (qJ U  r104 w105) Z .nil) Z (λc2=>(jD [([0],[]),([0],[]),([0],[])] Z)) λc2=>zBc Z Z Z (aI.alloc (cs:=GI) Z Z) Z (λbb=>(jD [([1],[]),([1],[]),([1],[])] Z)) λbb=>zBc Z Z Z (aI.call Fj (lB U C D) Z (hZ 6 Z) (λ_ _=>rfl) (λ_ _=>rfl)) Z (fun⟨aM,aS,e,ae⟩=>(jD [([1],[]),([1],[]),([1],[])] Z)) fun⟨aM,aS,e,ae⟩=>?_;have h:=yN h e ae;refine dV h λn s h=>zBc Z Z Z (zBb Fg (qK U  n s) Z .nil) Z (λbq=>(jD [([2],[]),([2],[]),([2],[])] Z)) λbq=>dV h λd t h=>zBc Z Z Z (zBb Kd (mR U b.1 b.2.1 (List.zip b.2.2 g.2) bq v3 d t) Z (aB.cons (aT (aE.res 3 Z) cD) (aB.cons (bE (i:=4) (j:=5) Z Z bD) (aB.cons (aT (aE.res 0 Z) fH) (kA [6] Z))))) Z (λaX=>(jD [([4],[]),([4],[])] Z)) λaX=>dV h λp u h=>zBc Z Z Z (zBb Fi (nY U b.1 b.2.1 (List.zip b.2.2 g.2) p u) Z (aB.cons (aT (aE.res 5 Z) cD) (aB.cons (bE (i:=6) (j:=7) Z Z bD) .nil))) Z (λc3=>(jD [([4],[])] Z)) λc3=>gO Z (AR Z Z Z Z Z Z)<|dV h λq v h=>zBc Z Z Z (zBb Fh (mS U (lE) q v) Z (aB.cons aE.nil .nil)) Z (λbr=>(jD [([5],[])] Z)) λbr=>dV h λa w h=>zBc Z Z Z (zBb Kb (qI U aM aS b.1 b.2.1 (List.zip b.2.2 g.2) aX.1 (List.zip aX.2 d) br a w) Z (aB.cons (aE.fact 0 Z) (aB.cons (aE.fact 1 Z) (aB.cons (aE.fact 2 Z) (aB.cons (aT (aE.res 6 Z) cD) (aB.cons (bE (i:=7) (j:=8) Z Z bD) (aB.cons (bE (i:=1) (j:=2) Z Z cD) (aB.cons (aT (aE.res 0 Z) mU) (kA [9] Z))))))))) Z (λK=>(jD [] Z)) λK=>gO Z (gN Z)<|gO Z (fZ Z Z)<|gO Z (fZ Z Z)<|cL (Know.one ((aT (aE.res 0 Z) mU))) λb4=>cL (Know.one ((aT (aE.res 1 Z) mU))) λb5=>cL (Know.one (aE.sl (bE (i:=2) (j:=3) Z Z cD))) λb6=>oG Z Z Z (nU 8 (vs:=[K.1,K.2.1,K.2.2.1,vI (a.1.2.2.2.1),vI (a.1.2.2.2.2.1),vI (a.1.2.2.2.2.2.1),vI (a.1.2.2.2.2.2.2.1),vU (a.1.2.2.2.2.2.2.2)]) Z Z (eB b4 (eB b5 (eB b6 (eB Z (eB Z (eB Z (eB Z (eB Z Z)))))))) Z Z Z) (λc4=>(jD [] Z)) λc4=>bR 20 Z Z<|aC Z<|aJ ?_;exact bW (a.2,a.1.2.2.2.1,a.1.2.2.2.2.1,a.1.2.2.2.2.2.1,a.1.2.2.2.2.2.2.1,a.1.2.2.2.2.2.2.2,a.1.1,a.1.2.1,a.1.2.2.1) (bb,K.1,K.2.1,K.2.2.1,K.2.2.2) h SF (a_.ix [8,0,1,2,3,9,10,11,12] Z Z) (kA [3,4,5,6,7,8,9] Z)
  refine bA Z<|fX 0 Z<|fX 0 Z<|bA Z<|bA Z<|bA Z<|fX 0 Z<|zBc Z Z Z (aI.alloc (cs:=GI) Z Z) Z (λbc=>(jD [([1],[]),([1],[]),([1],[])] Z)) λbc=>zBc Z Z Z (zBb Kc (qJ U  r104 w105) Z .nil) Z (λc5=>(jD [([1],[]),([1],[]),([1],[])] Z)) λc5=>zBc Z Z Z (aI.call Fj (lB U C D) Z (hZ 6 Z) (λ_ _=>rfl) (λ_ _=>rfl)) Z (fun⟨a0,a1,e,af⟩=>(jD [([1],[]),([1],[]),([1],[])] Z)) fun⟨a0,a1,e,af⟩=>?_;have h:=yN h e af;refine dV h λn s h=>zBc Z Z Z (zBb Fg (qK U  n s) Z .nil) Z (λbs=>(jD [([2],[]),([2],[]),([2],[])] Z)) λbs=>dV h λd t h=>zBc Z Z Z (zBb Kd (mR U b.1 b.2.1 (List.zip b.2.2 g.2) bs v3 d t) Z (aB.cons (aT (aE.res 3 Z) cD) (aB.cons (bE (i:=4) (j:=5) Z Z bD) (aB.cons (aT (aE.res 0 Z) fH) (kA [6] Z))))) Z (λa2=>(jD [([4],[]),([4],[])] Z)) λa2=>dV h λp u h=>zBc Z Z Z (zBb Fi (nY U b.1 b.2.1 (List.zip b.2.2 g.2) p u) Z (aB.cons (aT (aE.res 5 Z) cD) (aB.cons (bE (i:=6) (j:=7) Z Z bD) .nil))) Z (λc6=>(jD [([4],[])] Z)) λc6=>gO Z (AR Z Z Z Z Z Z)<|dV h λq v h=>zBc Z Z Z (zBb Fh (mS U (lE) q v) Z (aB.cons aE.nil .nil)) Z (λbt=>(jD [([5],[])] Z)) λbt=>dV h λa w h=>zBc Z Z Z (zBb Kb (qI U a0 a1 b.1 b.2.1 (List.zip b.2.2 g.2) a2.1 (List.zip a2.2 d) bt a w) Z (aB.cons (aE.fact 0 Z) (aB.cons (aE.fact 1 Z) (aB.cons (aE.fact 2 Z) (aB.cons (aT (aE.res 6 Z) cD) (aB.cons (bE (i:=7) (j:=8) Z Z bD) (aB.cons (bE (i:=1) (j:=2) Z Z cD) (aB.cons (aT (aE.res 0 Z) mU) (kA [9] Z))))))))) Z (λL=>(jD [] Z)) λL=>gO Z (gN Z)<|gO Z (fZ Z Z)<|gO Z (fZ Z Z)<|cL (Know.one ((aT (aE.res 0 Z) mU))) λb7=>cL (Know.one ((aT (aE.res 1 Z) mU))) λb9=>cL (Know.one (aE.sl (bE (i:=2) (j:=3) Z Z cD))) λca=>oG Z Z Z (nU 8 (vs:=[L.1,L.2.1,L.2.2.1,vI (a.1.2.2.2.1),vI (a.1.2.2.2.2.1),vI (a.1.2.2.2.2.2.1),vI (a.1.2.2.2.2.2.2.1),vU (a.1.2.2.2.2.2.2.2)]) Z Z (eB b7 (eB b9 (eB ca (eB Z (eB Z (eB Z (eB Z (eB Z Z)))))))) Z Z Z) (λc7=>(jD [] Z)) λc7=>bR 20 Z Z<|aC Z<|aJ ?_;exact bW (a.2,a.1.2.2.2.1,a.1.2.2.2.2.1,a.1.2.2.2.2.2.1,a.1.2.2.2.2.2.2.1,a.1.2.2.2.2.2.2.2,a.1.1,a.1.2.1,a.1.2.2.1) (bc,L.1,L.2.1,L.2.2.1,L.2.2.2) h SF (a_.ix [8,0,1,2,3,9,10,11,12] Z Z) (kA [3,4,5,6,7,8,9] Z)
 intro m k h;refine aK<|aK<|eJ (λQ=>mE U p3 p4 g m Q=some r) (λQ cd=>[(3,v4),(4,v5),(12,vP N),(13,vI (g.2.length:Int)),(14,vP k.1),(54,vB (Q))]) (λQ cd=>[bM k.1 [k.2.1,k.2.2.1,k.2.2.2.1,vI (m.2.1),vI (m.2.2.1),vI (m.2.2.2.1),vI (m.2.2.2.2.1),vU (m.2.2.2.2.2.1)] 37,Ar pX k.2.1 m.2.2.2.2.2.2.1,Ar pX k.2.2.1 m.2.2.2.2.2.2.2.1,Ar fQ.raw k.2.2.2.1 k.2.2.2.2,nH cB k.2.2.2.2 m.2.2.2.2.2.2.2.2,bM N [b.1,b.2.1] 29,Ar cB b.1 g.1,Ar fQ.raw b.2.1 b.2.2,nH bT b.2.2 g.2]) ?_ ?_
 ·refine aQ<|aA Z<|pC Z<|aA Z ?_;refine Eb h Z (λ_ h=>?_) λ_ h=>?_
  ·refine aL Z<|aL Z<|aL Z<|aL Z<|aL Z<|aL Z<|eK Z<|aJ ?_;exact iH (true) () h SF Z
  refine eG Z<|aW Z (jX 5 Z Z Z Z) Z<|aW Z (eI Z Z Z Z Z) Z<|aW Z (d_ 0 Z Z Z Z Z) Z<|dV h λbd cy h=>nN Z (zBb aeG (Nz U b.1 b.2.1 (List.zip b.2.2 g.2) k.2.2.2.1 (List.zip k.2.2.2.2 m.2.2.2.2.2.2.2.2) bd cy) Z (aB.cons (aT (aE.res 6 Z) cD) (aB.cons (bE (i:=7) (j:=8) Z Z bD) (aB.cons (bE (i:=3) (j:=4) Z Z cD) .nil)))) Z λdj=>aW Z (kB Z) Z<|fY Z<|aJ ?_;exact iH ((!bd)) () h SF Z
 intro Q cd h;refine yW h Z (λ_ h=>?_) λ_ h=>?_
 ·refine aP<|aC Z<|aJ<|aU<|aH ?_;cases h;exact sB Z
 refine cG<|aP<|bY Z<|cR 0 Z<|dV h λa3 db h=>aG (zBb aeH (MW U k.2.2.2.1 (List.zip k.2.2.2.2 m.2.2.2.2.2.2.2.2) a3 db) Z (aB.cons (bE (i:=3) (j:=4) Z Z cD) .nil)) Z λy=>aC Z<|aJ<|aP<|cA 6 Z<|aA Z<|dV h λa4 dc h=>aG (zBb Yp (FK U b.1 b.2.1 (List.zip b.2.2 g.2) y a4 dc) Z (aB.cons (aT (aE.res 7 Z) cD) (aB.cons (bE (i:=8) (j:=9) Z Z bD) (aB.cons (aT (aE.res 0 Z) cD) .nil)))) Z λA=>aA Z<|iU Z<|iU Z<|aC Z<|aC Z<|aJ<|aK<|aK<|eJ (λR=>jK U p3 p4 g a3 a4 R=some r) (λR ce=>[(3,v4),(4,v5),(12,vP N),(13,vI (g.2.length:Int)),(16,y),(17,A),(78,vB (R))]) (λR ce=>[Ar bT A a4.1,Ar cB y a3,bM N [b.1,b.2.1] 29,Ar cB b.1 g.1,Ar fQ.raw b.2.1 b.2.2,nH bT b.2.2 g.2]) ?_ ?_
 ·refine aQ<|aA Z<|pC Z<|aA Z ?_;refine Eb h Z (λ_ h=>?_) λ_ h=>?_
  ·refine aL Z<|aL Z<|aL Z<|aL Z<|eK Z<|aA Z<|aL Z<|aL Z<|aL Z<|aL Z<|aL Z<|eK Z<|aJ ?_;exact bW (true) () h SF (a_.ix [0,1,7,8,9,10] Z Z) (aB.refl _ _)
  refine eG Z<|aW Z (fF Z (aT (aE.res 0 Z) bD) Z) Z<|eG Z<|aW Z (Bq Z Z) Z<|fY Z<|aA Z ?_;refine Eb h Z (λ_ h=>?_) λ_ h=>?_
  ·refine aL Z<|aL Z<|aL Z<|aL Z<|aL Z<|eK Z<|aJ ?_;exact bW (true) () h SF (a_.ix [0,1,7,8,9,10] Z Z) (aB.refl _ _)
  refine aW Z (jX 7 Z Z Z Z) Z<|eG Z<|eG Z<|dV h λcx dh h=>nN Z (zBb Yq (Cn U b.1 b.2.1 (List.zip b.2.2 g.2) y A cx dh) Z (aB.cons (aT (aE.res 8 Z) cD) (aB.cons (bE (i:=9) (j:=10) Z Z bD) (aB.cons (aT (aE.res 1 Z) cD) (aB.cons (aT (aE.res 0 Z) bD) .nil))))) Z λdp=>aW Z (Bq Z Z) Z<|fY Z<|aJ ?_;exact bW (decide (cx≠(0:Int))) () h SF (a_.ix [0,1,7,8,9,10] Z Z) (aB.refl _ _)
 intro R ce h;refine yW h Z (λ_ h=>?_) λ_ h=>?_
 ·refine aP<|aC Z<|aJ<|aU<|aH ?_;cases h;exact sB Z
 refine cG<|aK<|eJ (λP=>mF U g P=some r) (λP cf=>[(12,vP N),(16,y),(17,A)]) (λP cf=>[Ar bT A P.1,Ar cB y P.2,bM N [b.1,b.2.1] 29,Ar cB b.1 g.1,Ar fQ.raw b.2.1 b.2.2,nH bT b.2.2 g.2]) ?_ ?_
 ·refine aP<|aC Z<|aJ<|aR<|eO (eS U p3 p4 g) (λf ch=>[(3,v4),(4,v5),(12,vP N),(13,vI (g.2.length:Int)),(16,y),(17,A),(19,vI (f.1))]) (λf ch=>[Ar bT A f.2.1,Ar cB y f.2.2,bM N [b.1,b.2.1] 29,Ar cB b.1 g.1,Ar fQ.raw b.2.1 b.2.2,nH bT b.2.2 g.2]) ((0:Int),a4.1,a3) () h SF (a_.refl _) ?_;intro cb f ch h;refine aK<|aP<|aA Z<|aA Z<|cO Z<|aJ ?_;refine dK h Z (λh=>?_) λh=>?_
  ·refine cG<|aK<|eJ (λM=>jL f (bH (eS U p3 p4 g) cb) M=some r) (λM ci=>[(3,v4),(4,v5),(12,vP N),(13,vI (g.2.length:Int)),(16,y),(17,A),(19,vI (f.1))]) (λM ci=>[Ar bT A M.2,Ar cB y M.1,bM N [b.1,b.2.1] 29,Ar cB b.1 g.1,Ar fQ.raw b.2.1 b.2.2,nH bT b.2.2 g.2]) ?_ ?_
   ·refine aR<|aK<|aK ?_;refine JR.start [0,0,3,7,15,0,32,96,224,511] 9 mixedOrders (by decide +kernel) ?_;refine zBe (by exact rfl) ?_;refine bA Z<|bA Z<|dQ h λco h=>bG Z (a_.cons 0 Z .nil) .nil (aZ Z Z (aT (aE.res 0 Z) bD) Z Z co) aN.z ?_;refine gO Z (uZ (i:=0) Z Z Z Z Z (by decide)) ?_;refine bG Z (a_.cons 0 Z .nil) .nil (mA Z (aT (aE.res 0 Z) bD) Z Z Z sF co) aN.z<|dJ Z<|fG 2 Z<|dQ h λcp h=>bG Z (a_.cons 3 Z .nil) .nil (aZ Z Z (aT (aE.res 0 Z) cD) Z Z cp) aN.z<|bG Z (a_.cons 3 Z .nil) .nil (bV Z (aT (aE.res 0 Z) cD) Z Z Z cT cp) aN.z<|bR 9 Z Z<|pC Z<|aJ ?_;refine dK h Z (λh=>?_) λh=>?_
    ·refine aP<|aC Z<|aJ<|aU<|aH<|bN<|aH<|aH<|bN<|aH ?_;cases h;exact sB Z
    refine cG<|aK<|eJ (λO=>jM p4 f (bH (eS U p3 p4 g) cb) O=some r) (λO cj=>[(3,v4),(4,v5),(12,vP N),(13,vI (g.2.length:Int)),(16,y),(17,A),(19,vI (f.1))]) (λO cj=>[Ar bT A f.2.1,Ar cB y O,bM N [b.1,b.2.1] 29,Ar cB b.1 g.1,Ar fQ.raw b.2.1 b.2.2,nH bT b.2.2 g.2]) ?_ ?_
    ·refine aK<|eJ (λT=>jN U p3 p4 g f (bH (eS U p3 p4 g) cb) T=some r) (λT ck=>[(3,v4),(4,v5),(12,vP N),(13,vI (g.2.length:Int)),(16,y),(17,A),(19,vI (f.1)),(104,vB (T))]) (λT ck=>[Ar bT A f.2.1,Ar cB y f.2.2,bM N [b.1,b.2.1] 29,Ar cB b.1 g.1,Ar fQ.raw b.2.1 b.2.2,nH bT b.2.2 g.2]) ?_ ?_
     ·refine aQ<|aA Z<|aA Z<|gS (aE.fact 4 Z) Z<|cO Z<|aA Z ?_;refine Eb h Z (λ_ h=>?_) λ_ h=>?_
      ·refine eG Z<|eG Z<|dQ h λcv h=>aW Z (aZ Z Z (aE.fact 4 Z) Z Z cv) Z<|aW Z (bV Z (aE.fact 4 Z) Z Z Z cT cv) Z<|aW Z (Bq Z Z) Z<|eK Z<|aJ ?_;exact iH (decide ((at' p3 f.1)≠(0:Int))) () h SF Z
      refine aL Z<|aL Z<|aL Z<|aL Z<|aL Z<|fY Z<|aJ ?_;exact iH (false) () h SF Z
     intro T ck h;refine yW h Z (λ_ h=>?_) λ_ h=>?_
     ·refine JR.start [0,0,0,0,12,28,0,64,0,448,960,1984,4032,8188,16380,32767,65535] 15 mixedOrders (by decide +kernel) ?_;refine zBe (by exact rfl) ?_;refine bA Z<|bA Z<|bA Z<|bA Z<|dQ h λct h=>bG Z .nil (hZ 4 Z) (aZ Z Z (aE.fact 0 Z) Z Z ct) aN.z<|bG Z .nil (hZ 4 Z) (bV Z (aE.fact 0 Z) Z Z Z cT ct) aN.z<|dJ Z<|fG 2 Z<|bA Z<|dQ h λag h=>cL (eH 5 Z) λcl=>?_;refine bG Z (a_.cons 4 Z .nil) .nil (kP 0 Z Z Z Z Z ag.1 (by have q1:=ag.2;have q2:=cl;(try simp only[zA3]at q1);(try simp only[zA3]at q2);(try simp only[zA3]);omega)) aN.z ?_;refine cL (eH 5 Z) λcm=>bG Z (a_.cons 4 Z .nil) .nil (pN 0 Z Z cm Z Z ag) aN.z<|bG Z (a_.cons 5 Z .nil) .nil (fF Z (aE.row (j:=0) Z bD ag.1 ag.2) Z) aN.z<|gO Z (yE Z Z)<|dV h λcc dg h=>zBc Z Z Z (zBb GQ (jJ U  cc dg) Z .nil) Z (λdi=>(jD [] Z)) λdi=>gO Z (qP Z Z)<|bR 15 Z Z<|dQ h λcu h=>aD (aZ Z Z (aT (aE.res 1 Z) cD) Z Z cu) Z<|t_ 1 (wI .i64 (cc - (1:Int))) cu Z Z Z Z Z Z Z<|aJ ?_;exact iH (List.set f.2.2 (Int.toNat f.1) (wI .i64 (cc - (1:Int)))) () h SF Z
     refine cG ?_;exact iH (f.2.2) () h SF Z
    intro O cj h;refine aP<|aA Z<|aA Z<|gS (aE.fact 5 Z) Z<|cO Z<|aJ ?_;refine dK h Z (λh=>?_) λh=>?_
    ·refine aQ<|aA Z<|aA Z<|aA Z<|aA Z<|dQ h λcq h=>aD (aZ Z Z (aE.fact 5 Z) Z Z cq) Z<|aD (eM (cs:=[vI ((at' p4 f.1).1),vI ((at' p4 f.1).2)]) Z (aE.fact 5 Z) bD Z Z Z Z cq) Z<|dQ h λcr h=>aD (aZ Z Z (aT (aE.res 0 Z) bD) Z Z cr) Z<|KN (EZ (us:=[vI ((at' p4 f.1).1),vI ((at' p4 f.1).2)]) (o:=0) 0 ((((at' p4 f.1).1),((at' p4 f.1).2))) cr Z Z Z Z Z Z Z Z Z Z) λdn=>eV<|lU ?_;exact iH (O,(List.set f.2.1 (Int.toNat f.1) (((at' p4 f.1).1),((at' p4 f.1).2)))) () h SF Z
    refine dD<|lU ?_;exact iH (O,f.2.1) () h SF Z
   intro M ci h;unfold jL at h;refine aQ<|aA Z<|cH Z<|aC Z<|aJ ?_;exact AS ((wI .i64 (f.1+(1:Int))),M.2,M.1) () h SF Z
  refine fL ?_;exact iH (f.2.1,f.2.2) () h SF Z
 intro P cf h;refine aK<|eJ (λS=>gT  S=some r) (λS cg=>[(10,vB (S))]) (λS cg=>[]) ?_ ?_
 ·refine aQ<|dV h λc9 dd h=>aG (zBb Yr (GG U  c9 dd) Z (kA [6] Z)) Z λdk=>aA Z ?_;refine yX (by exact rfl) (by exact rfl) (λV=>?_) (λV=>?_)
  ·have h:=Kx V h;refine aW Z (jX 2 Z Z Z Z) Z<|eG Z<|dV h λda de h=>nN Z (zBb aeI (MQ U b.1 b.2.1 (List.zip b.2.2 g.2) y da de) Z (aB.cons (aT (aE.res 3 Z) cD) (aB.cons (bE (i:=4) (j:=5) Z Z bD) (aB.cons (aT (aE.res 1 Z) cD) .nil)))) Z λdl=>eG Z ?_;refine yX (by exact rfl) (by exact rfl) (λW=>?_) (λW=>?_)
   ·have h:=Kx W h;refine aL Z<|aL Z<|aL Z<|aL Z<|aL Z<|aW Z (KS Z Z) Z<|eK Z<|aC Z<|aJ ?_;exact bW (true) () h SF .nil (aB.refl _ _)
   have h:=Ju W h;refine aW Z (jX 2 Z Z Z Z) Z<|eG Z<|eG Z<|dV h λcw df h=>nN Z (zBb Yq (Cn U b.1 b.2.1 (List.zip b.2.2 g.2) y A cw df) Z (aB.cons (aT (aE.res 3 Z) cD) (aB.cons (bE (i:=4) (j:=5) Z Z bD) (aB.cons (aT (aE.res 1 Z) cD) (aB.cons (aT (aE.res 0 Z) bD) .nil))))) Z λdm=>aW Z (Bq Z Z) Z<|aW Z (KR Z Z) Z<|eK Z<|aC Z<|aJ ?_;exact bW (decide (cw≠(0:Int))) () h SF .nil (aB.refl _ _)
  have h:=Ju V h;refine aL Z<|aL Z<|aL Z<|aL Z<|XO (h:= ?_);refine XO (h:= ?_);refine XO (h:= ?_);refine XO (h:= ?_);refine XO (h:= ?_);refine aL Z<|fY Z<|aC Z<|aJ ?_;exact bW (false) () h SF .nil (aB.refl _ _)
 intro S cg h;unfold gT at h;refine aU ?_;cases h;exact kY Z
end Go.Proofs.YtcnnfkapmjhnaaaGreatDoor
namespace Go.Proofs.YtcnnfkapmjhnaaaGreatDoor
open Go Go.Sx
theorem agW {g:GR} (f:VM g.1 g.2) (h:∀v:Nat,1<=v->v<g.2.length->∃u:Nat,u<v∧oH g.2 u v):Cv g:=by
 have p:VG g:=f.vg;have t:=f.n1;have j:∀v,v<g.2.length->∃k,uY g 0 k v:=by
  intro v
  induction v using Nat.strongRecOn with
  | _ v ih =>
   intro c;by_cases l:v=0
   ·subst l;exact⟨0,rfl,c⟩
   ·obtain⟨u,e,x,s,o⟩:=h v (by omega) c;obtain⟨k,r⟩:=ih u e (by omega);obtain⟨i,q,d⟩:=FY s;refine⟨k+1,u,r,i,q,?_⟩
    show(at' (at' g.2 (u:Int)) (i:Int)).1=_;rw[d,o]
 intro u v e c;obtain⟨a,m⟩:=j u e;obtain⟨b,n⟩:=j v c;exact⟨a+b,(Ia p m).trans n⟩
theorem afi {g:GR} (a:VG g) (c:Cv g):∃K:Nat,1<=K∧K<=700∧(∀v,v<g.2.length->jP g fB v<(K:Int)*1)∧AX 1000 g=some (3,false,true,(K:Int),-1):=by
 have k:=a.n24;have n:=a.n1;have S:=agk a c default default;obtain⟨r,l,d,_,e,h,w,j,b⟩:=Kw a c (s:=0) (by omega);have i:∀v,v<g.2.length->0<=D d v:=λv f=>(QY a (by omega) e).2 c v (by rw[e.len];exact f);have o:0<=r:=by rw[<-b];exact i w j
 have p:r<=(g.2.length:Int):=by rw[<-b];exact e.hi w j
 refine⟨(r+1).toNat,by omega,by omega,λv f=> ?_,?_⟩
 ·rw[Rp a S.grow e i f];have:=h v f;omega
 ·unfold AX Du;rw[bB (show(Option.bind (cW 1000 (g.1,g.2)) λm=>some m)=some true by rw[bB (BH a c)]),if_neg (by decide),bB (show mP 1000 (g.1,g.2) 0=some r from l),wr (by omega) (by omega),show(((r+1).toNat:Nat):Int)=r+1 by omega]
theorem Wu {g:GR} (a:VG g) (k:Cv g) (E:Wh g [1*(g.2.length:Int),-1] (cE g fB)):AY 1000 g (cE g fB)=some true:=by
 have C:=a.n24;have L:=a.n1;have c:=a.len;have S:=agk a k default default;have F:(cE g fB).length=g.2.length:=Jh;obtain⟨d,A,e⟩:=Ph a (s:=0) (by omega);have B:∀v,v<g.2.length->0<=D d v:=λv b=>(QY a (by omega) e).2 k v (by rw[e.len];exact b);have l:∀v,v<g.2.length->jP g fB v=D d v:=λv b=>Rp a S.grow e B b;have n:q_ 1000 (g.1,g.2) (cE g fB)=some true:=by
  unfold q_ Du;rw[bB (show(Option.bind (cW 1000 (g.1,g.2)) λJ=>some J)=some true by rw[bB (BH a k)]),if_pos Z,c,bB (show fI 1000 (g.1,g.2) (cE g fB) [(g.2.length:Int),-1]=some true from(Ho a (by simp) _).1 (by rwa[Int.one_mul]at E))];rfl
 unfold AY;rw[bB n,if_neg (by decide),bB (show qE 1000 (g.1,g.2) 0=some d from A)];refine fM (step:=zC 1000 g (cE g fB) d) (K:=some true) g.2.length (λv:Nat=>(v:Int)) (λv x b=> ?_) (λx=> ?_) 1000 (by omega)
 ·obtain⟨p,G,I⟩:=aai a e b (at' (cE g fB) (v:Int));have t:PP g fB v=p:=by
   have m:∀i,i<(row g v).length->((fB (jP g fB (fU (row g v) i).1.toNat) (fU (row g v) i).2=jP g fB v)↔Low g d v i):=λi f=>by
    obtain⟨u,w,o⟩:=a.lk b f;obtain⟨_,z,y⟩:=Iq a o [];rw[y,z,l u o.2.1,l v b];unfold Low fB;rw[o.2.2.1];show D d u+1=D d v↔D d u=D d v - 1;omega
   rw[adp S.grow a b];rcases G with⟨i,f,rfl,H,r⟩|⟨rfl,r⟩
   ·exact Re f ((m i f).2 H) λj h q=>r j h ((m j (by omega)).1 q)
   ·exact Mc λj h q=>r j h ((m j h).1 q)
  unfold zC;rw[if_pos (by omega),cK (by omega),bB (show AZ 1000 (g.1,g.2) (v:Int) d (at' (cE g fB) (v:Int))=_ from I),NP b,t,l v b,zA9 Z,if_neg (by decide),dL (by omega)]
 ·unfold zC BA;rw[if_neg (by omega)]
theorem cfE {g:GR} {a:List Gu} {f i:E} {F:Int->Int->Int} {L N:Int} (S:Tm g a f i F L N) (l:VG g) {e:bX} (j:HU g e a) {K:Nat} (k:1<=K) (n:∀v,v<g.2.length->jP g F v<(K:Int)*L):Wh g [N,-1] (cE g F):=by
 have m:=afd S l j k n;have o:=S.N0;refine⟨Jh,λv d=>⟨by rw[NP d];rfl,λx c=> ?_⟩⟩
 have h:=m.ok v d x (by rw[S.len];exact c);have c:x<2:=c;rcases(show x=0∨x=1 by omega)with rfl|rfl
 ·rw[S.lo0,S.hi0]at h;have b:at' [N,-1] ((0:Nat):Int)=N:=rfl;unfold inB;rw[b,if_neg (by omega)];exact h
 ·rw[S.lo1,S.hi1]at h;have b:at' [N,-1] ((1:Nat):Int) = -1:=rfl;unfold inB;rw[b,if_pos Z];exact h
theorem Na {g:GR} (q:VG g) {c:List Gu} {f i:E} {F:Int->Int->Int} {L N:Int} (S:Tm g c f i F L N) (t:wL 2 (RY f i)=true) {nm:ByteArray} {z:List wN} (w:z.map uF=Gv (RY f i)) {n:bX} (o:HU g n c) {K:Nat} (r:1<=K) (s:K<=700) (u:∀v,v<g.2.length->jP g F v<(K:Int)*L) {e:aO} (l:e.length=K) (j:∀k:Nat,k<e.length->∃m:Nat,at' e (k:Int)=(m:Int)∧m<4294967296):
  ∃(a b:aO) (d:CT),mB 1000 (nm,c,z) g 4 n e=some ((a,b,cE g F,d),0):=by
 obtain⟨a,b,d,h⟩:=Rf (p:=(nm,c,z)) q S.ok w (by rw[S.len];exact t) o (ws:=e) (by omega) j;rw[l,Yy S q o r u]at h;exact⟨a,b,d,h⟩
theorem RG (g:GR) (F:Int->Int->Int) (c:g.2.length<=24):uN 1000 (cE g F) 1=some (No g F):=by
 have d:(cE g F).length=g.2.length:=Jh;unfold uN;refine(fM (step:=sX (cE g F) 1) (K:=some (No g F)) g.2.length (λv:Nat=>((List.range v).map (PP g F),(v:Int))) (λv b e=> ?_) (λb=> ?_) 1000 (by omega))
 ·have a:(List.range v).map (PP g F)++[PP g F v]=(List.range (v+1)).map (PP g F):=by rw[List.range_succ,List.map_append,List.map_singleton]
  unfold sX;dsimp only;rw[if_pos (by omega),cK (by omega),NP e,cK (by simp),cK (by simp;omega),dL (by omega),show at' [jP g F v,PP g F v] 1=PP g F v from rfl,a]
 ·unfold sX xW;dsimp only;rw[if_neg (by omega)];rfl
theorem aaa {g:GR} (b:VG g) (d:Cv g) {st:aO} (c:XE 1 g st):(∃l r,NK g st r∧Uz g st r l∧iQ 1000 1 g st=some (l,0))∨(¬Yc g st∧iQ 1000 1 g st=some ([],7)):=by
 have e:∀q,tE 1000 g st=some q->iQ 1000 1 g st=if(!q.2)=true then some ([],7)else some (q.1,0):=λq a=>by
  unfold iQ;rw[bB (show cW 1000 (g.1,g.2)=some true from(DY b).1 d),if_neg (by decide),bB (show uK 1000 1=some true from rfl),if_neg (by decide),bB (show wR 1000 1 (g.1,g.2) st=_ from YY b c),if_neg (by decide),cK (by decide),if_pos (by decide),bB (show tE 1000 (g.1,g.2) st=_ from a)]
 obtain⟨q,a,⟨f,r,j,h⟩|⟨rfl,i⟩⟩:=aau b c
 ·left;exact⟨q.1,r,j,h,by rw[e q a,f];rfl⟩
 ·right;exact⟨i,by rw[e _ a];rfl⟩
theorem JQ {g:GR} (f:VG g) (T:Cv g) {F:Int->Int->Int} {L:Int} (hG:kZ g F L) (r2:Int) (c:aO) (l:cC) (a b:aO) (j:CT) (ab:qS 1000 r2 g (cE g F)=some true):
  mD 1000 c l r2 g (0,j.1,j.2.1,j.2.2.1,j.2.2.2.1,j.2.2.2.2,a,b,cE g F)=some true:=by
 have ai:=f.n24;have h1:=f.n1;have ah:=f.len;have A:=aab f F;have S:XE 1 g (No g F):=⟨A.len,λv B=>A.fit hG f B⟩
 have W:=A.tree hG f;obtain⟨s,w,ac⟩:∃s,Uz g (No g F) 0 s∧iQ 1000 1 g (No g F)=some (s,0):=by
  rcases aaa f T S with⟨s,r,hr,hl,X⟩|⟨hn,_⟩
  ·obtain rfl:r=0:=W.root.2.2 r hr.root.1 hr.root.2.1;exact⟨s,hl,X⟩
  ·exact absurd ⟨0,W⟩ hn
 have I:=w.1;obtain⟨r0,ad,J⟩:=VH f A.len I S.fit;obtain rfl:=J.2 (NC f A.len S.fit W w);have aa:∀v:Nat,v<g.2.length->(at' s (v:Int)).1=at' g.1 ((0:Nat):Int):=λv B=>by
  obtain⟨k,hk,_⟩:=w.2 v B;rw[hk]
 unfold mD;dsimp only;rw[if_neg (by decide),bB (show qS 1000 r2 (g.1,g.2) (cE g F)=_ from ab)];unfold mE;dsimp only;rw[if_neg (by decide),bB (RG g F (by omega)),bB (show iQ 1000 1 (g.1,g.2) (No g F)=_ from ac)];dsimp only;rw[if_neg (by decide),if_neg (by omega),bB (show j_ 1000 1 (g.1,g.2) (No g F) s=_ from ad),zA8 (by omega)];unfold jK;rw[if_neg (by decide)];dsimp only;obtain⟨⟨i,C,d⟩,⟨_,p,m,n,_⟩,X⟩:=mL (step:=eS 1000 c l g) (K:=λz=>mF 1000 g (z.2.1,z.2.2)) g.2.length
  (λv z=>z.1=(v:Int)∧z.2.1.length=g.2.length∧z.2.2.length=g.2.length∧(∀u:Nat,u<g.2.length->tP 1 g u (at' z.2.2 (u:Int)))∧∀u:Nat,v<=u->u<g.2.length->(at' z.2.1 (u:Int)).1=at' g.1 ((0:Nat):Int)) (λv z D B V=>by
   obtain⟨i,C,d⟩:=z;obtain⟨H,p,m,n,E⟩:=V;dsimp only at H p m n E;subst H;have af:=(f.node v B).deg;have q1:(at' g.2 (v:Int)).length=(row g v).length:=rfl
   -- the label
   have Q:∀o:aO,o.length=g.2.length->(∀u:Nat,u<g.2.length->tP 1 g u (at' o (u:Int)))->∃h,(h.1=((v+1:Nat):Int)∧h.2.1.length=g.2.length∧h.2.2.length=g.2.length∧(∀u:Nat,u<g.2.length->tP 1 g u (at' h.2.2 (u:Int)))∧∀u:Nat,v+1<=u->u<g.2.length->(at' h.2.1 (u:Int)).1=at' g.1 ((0:Nat):Int))∧jM l ((v:Int),C,d) D o=D h:=λo N G=>by
    unfold jM jL;dsimp only;by_cases P:(v:Int)<(l.length:Int)
    ·rw[if_pos P,cK (by omega),cK (by omega),dL (by omega),zAc];refine⟨_,⟨rfl,by dsimp only;simpa using p,N,G,λu O y=> ?_⟩,rfl⟩
     dsimp only;rw[qQ _ _ _ _ (by omega),if_neg (by omega)];exact E u (by omega) y
    ·rw[if_neg P,dL (by omega)];exact⟨_,⟨rfl,p,N,G,λu O y=>E u (by omega) y⟩,rfl⟩
   unfold eS;dsimp only;rw[if_pos (by omega),cK (by omega),cK (by omega),if_neg (λq=>q (E v (zAe _) B))];have k8:∀R:Bool,(R=true->(v:Int)<(c.length:Int))->∃h,(h.1=((v+1:Nat):Int)∧h.2.1.length=g.2.length∧h.2.2.length=g.2.length∧(∀u:Nat,u<g.2.length->tP 1 g u (at' h.2.2 (u:Int)))∧∀u:Nat,v+1<=u->u<g.2.length->(at' h.2.1 (u:Int)).1=at' g.1 ((0:Nat):Int))∧jN 1000 c l g ((v:Int),C,d) D R=D h:=λR hb=>by
    unfold jN;dsimp only;cases R with
    |false=>rw[if_neg (by decide)];exact Q d m n
    | true =>
     have:=hb Z;have w1:=Int.emod_nonneg (at' c (v:Int)) (show((at' g.2 (v:Int)).length:Int)+1≠0 by omega);have w2:=Int.emod_lt_of_pos (at' c (v:Int)) (show 0<((at' g.2 (v:Int)).length:Int)+1 by omega);rw[if_pos Z,cK (by omega),cK (by omega),wr (x:=((at' g.2 (v:Int)).length:Int)+1) (by omega) (by omega),bB (tK _ _ (by omega) (by omega)),cK (by omega),wr (by omega) (by omega),zAc];refine Q _ (by simpa using m) λu O=> ?_;rw[qQ _ _ _ _ (by omega)];by_cases e:u=v
     ·subst e;rw[if_pos Z,tP,if_pos (.inl Z)];omega
     ·rw[if_neg e];exact n u O
   by_cases t:(v:Int)<(c.length:Int)
   ·rw[if_pos t,cK (by omega)];exact k8 _ λ_=>t
   ·rw[if_neg t];exact k8 false λq=>(by cases q)) (λz D V=>by
   obtain⟨i,C,d⟩:=z;obtain⟨H,p,m,n,E⟩:=V;dsimp only at H p m;subst H;unfold eS;dsimp only;rw[if_neg (by omega)]) 1000 ((0:Int),s,No g F) ⟨rfl,I,A.len,S.fit,λu _ O=>aa u O⟩ (by omega)
 dsimp only at p m n;rw[X];unfold mF gT;dsimp only;have U:XE 1 g d:=⟨m,n⟩
 rw[bB (show wJ 1000=some true from rfl),if_pos Z];rcases aaa f T U with⟨l1,r,hr,hl,hp⟩|⟨hn,hp⟩
 ·have Y:rS 1000 1 (g.1,g.2) d=some true:=by
   unfold rS;rw[bB (show iQ 1000 1 (g.1,g.2) d=_ from hp)];rfl
  rw[bB Y,if_pos Z]
 ·have Y:rS 1000 1 (g.1,g.2) d=some false:=by
   unfold rS;rw[bB (show iQ 1000 1 (g.1,g.2) d=_ from hp)];rfl
  obtain⟨r1,ae,M⟩:=VH f (st:=d) (l:=C) m p n;rw[bB Y,if_neg (by decide),bB (show j_ 1000 1 (g.1,g.2) d C=_ from ae)];exact congrArg some (zA9 λq=>hn (Xo f T m n (M.1 q)))
theorem HL (a b:ByteArray) {k:Int} (d:0<=k) (e:k<=16):∀x,x<(Cy a b k).length->H_ (at' (Cy a b k) (x:Int)) ∧ -100000<=(at' (Cy a b k) (x:Int)).2.2.1∧(at' (Cy a b k) (x:Int)).2.2.1<=(at' (Cy a b k) (x:Int)).2.2.2.1:=λx c=>by
 have c:x<2:=c;rcases(show x=0∨x=1 by omega)with rfl|rfl
 ·show((-100000<=(0:Int)∧(0:Int)<=100000)∧(0<=k∧k<=100000)∧(0<=(0:Int)∧(0:Int)<=100000)) ∧ -100000<=(0:Int)∧(0:Int)<=0;omega
 ·show((-100000<=(0:Int)∧(0:Int)<=100000)∧(0<=(0:Int)∧(0:Int)<=100000)∧(0<=(0:Int)∧(0:Int)<=100000)) ∧ -100000<=(0:Int)∧(0:Int)<=0;omega
theorem Uq (c:Int) (x:Wl) (m d:aO) (l:cC):rU 1000 c x m d l=some true:=by
 obtain⟨g,H,y,I,G⟩:=Pg x 6 (by omega) (by omega);have f:VG g:=y.vg;have J:=f.n1;have F:=f.len;have o:=agW y G;have E:kG 1000 (x.1,x.2.1,x.2.2.1,x.2.2.2.1,x.2.2.2.2.1,x.2.2.2.2.2) 6=some g:=H;have M:=Int.emod_nonneg c (show(3:Int)≠0 by omega);have N:=Int.emod_lt_of_pos c (show(0:Int)<3 by omega);unfold rU;rw[bB (tK c 3 (by omega) (by omega)),bB E];rcases(show c%3=0∨c%3=1∨c%3=2 by omega)with e|e|e
 ·rw[e,bB (show zU 1000 0=some Hy from rfl),bB (ZY 1000)];refine OO λz v=> ?_;have v:z.map uF=Gv RBf:=v;have S:=agk f o (ByteArray.mk #[100]) (ByteArray.mk #[112]);obtain⟨w,A,j⟩:=Jj f (Cy (ByteArray.mk #[100]) (ByteArray.mk #[112]) 1) m (by decide) (HL _ _ (by omega) (by omega));obtain⟨K,h,q,i,r⟩:=afi f o;obtain⟨B,u,t,s⟩:=JX ([]:aO) (n:=K) (by omega);rw[bB (show zV 1000 0=some (Cy (ByteArray.mk #[100]) (ByteArray.mk #[112]) 1)from rfl),bB (show kS 1000 (g.1,g.2) _ m=some w from A),bB (show nV 1000 0 (g.1,g.2)=some (3,false,true,(K:Int),-1) by unfold nV;rw[if_pos Z,bB (show AX 1000 (g.1,g.2)=_ from r)]),bB (show mQ 1000 ([]:aO) (K:Int)=_ from u)];obtain⟨a,b,p,k⟩:=Na (nm:=ByteArray.mk #[98,102,115]) f S adw v j h q i t s;refine(bB (show mB 1000 (ByteArray.mk #[98,102,115],Cy (ByteArray.mk #[100]) (ByteArray.mk #[112]) 1,z) g 4 w B=_ from k)).trans ?_;exact JQ f o S.grow 0 d l a b p (by unfold qS;rw[if_pos Z,bB (show AY 1000 (g.1,g.2) (cE g fB)=_ from Wu f o (cfE S f j h i))])
 ·rw[e,bB (show zU 1000 1=some Hz from rfl),bB (ZZ 1000)];refine OO λz v=> ?_;have v:z.map uF=Gv RPa:=v;obtain⟨L,K,C,D,h,q,i,r⟩:=afj f o;have S:=ahI f o (ByteArray.mk #[100]) (ByteArray.mk #[112]) C D;obtain⟨w,A,j⟩:=Jj f (Cy (ByteArray.mk #[100]) (ByteArray.mk #[112]) 15) m (by decide) (HL _ _ (by omega) (by omega));obtain⟨B,u,t,s⟩:=JX ([]:aO) (n:=K) (by omega);rw[bB (show zV 1000 1=some (Cy (ByteArray.mk #[100]) (ByteArray.mk #[112]) 15)from rfl),bB (show kS 1000 (g.1,g.2) _ m=some w from A),bB (show nV 1000 1 (g.1,g.2)=some (3,false,true,(K:Int),-1) by unfold nV;rw[if_neg (by decide),if_pos Z,bB (show tF 1000 (g.1,g.2)=_ from r)]),bB (show mQ 1000 ([]:aO) (K:Int)=_ from u)];obtain⟨a,b,p,k⟩:=Na (nm:=ByteArray.mk #[112,97,116,104,115]) f S adx v j h q i t s;refine(bB (show mB 1000 (ByteArray.mk #[112,97,116,104,115],Cy (ByteArray.mk #[100]) (ByteArray.mk #[112]) 15,z) g 4 w B=_ from k)).trans ?_;exact JQ f o S.grow 1 d l a b p (by unfold qS;rw[if_neg (by decide),if_pos Z,bB (show wU 1000 (g.1,g.2) (cE g fP)=_ from RE f o S.grow S.cap (cfE S f j h i))])
 ·rw[e,bB (show zU 1000 2=some HA from rfl),bB (Z_ 1000)];refine OO λz v=> ?_;have v:z.map uF=Gv RWi:=v;obtain⟨K,h,q,i,r⟩:=afk f o;have S:=ahJ f o (ByteArray.mk #[120]) (ByteArray.mk #[112]);obtain⟨w,A,j⟩:=Jj f (Cy (ByteArray.mk #[120]) (ByteArray.mk #[112]) 16) m (by decide) (HL _ _ (by omega) (by omega));obtain⟨B,u,t,s⟩:=JX ([]:aO) (n:=K) (by omega);rw[bB (show zV 1000 2=some (Cy (ByteArray.mk #[120]) (ByteArray.mk #[112]) 16)from rfl),bB (show kS 1000 (g.1,g.2) _ m=some w from A),bB (show nV 1000 2 (g.1,g.2)=some (3,false,true,(K:Int),-1) by unfold nV;rw[if_neg (by decide),if_neg (by decide),if_pos Z,bB (show uO 1000 (g.1,g.2)=_ from r)]),bB (show mQ 1000 ([]:aO) (K:Int)=_ from u)];obtain⟨a,b,p,k⟩:=Na (nm:=ByteArray.mk #[119,105,100,101,115,116]) f S ady v j h q i t s;refine(bB (show mB 1000 (ByteArray.mk #[119,105,100,101,115,116],Cy (ByteArray.mk #[120]) (ByteArray.mk #[112]) 16,z) g 4 w B=_ from k)).trans ?_;exact JQ f o S.grow 2 d l a b p (by unfold qS;rw[if_neg (by decide),if_neg (by decide),if_pos Z,bB (show uP 1000 (g.1,g.2) (cE g (fW g.2.length))=_ from Qk f o S.grow S.cap (cfE S f j h i))])
end Go.Proofs.YtcnnfkapmjhnaaaGreatDoor
namespace Go.Sx
open Go.RowKit Go.ChangeShapes Go.WideShapes Go.ChangeAt Go.Proofs Go.Joins Go.Deep
section
variable {H:Type} {enc:TypeId×Value->H} {P:Program} {w:World} {base:Nat} {spare:Nat->Bool} {held:Bool}
theorem Nm {a:Type} (l:List a) (d:a):l=(List.range l.length).map λi=>l.getD i d:=by
 apply List.ext_getElem?;intro i;by_cases h:i<l.length
 ·simp[h]
 ·simp[h]
theorem ZO {r:Reach} {x:Nat} {t:TypeId} {b:Array Field} {v:Value} {d:DataW H} {p:List MemPlace} (s:P.underlying t=some (.struct b)) (c:oneCellFields P b=true) (z:P.cellsOf t=b.size)
  (E:Value.okWide P w r x t v) (h:DataW.Trod enc P w base spare held t v d p):
  ∃(V:Nat->Value) (Y:Nat->DataW H×List MemPlace) (n:Nat),v = .agg ((List.range b.size).map V).toArray∧∀(i:Nat) (f:Field),b[i]? = some f->DataW.trod enc P w base spare held n f.type [V i]=some (Y i):=by
 obtain⟨a,rfl,l⟩:=okWide_struct s E;obtain⟨m,A⟩:=h;obtain⟨u,n,_,_,_,q,B⟩:=DataW.trod_struct s A;refine⟨λi=>a.toList.getD i undef,λi=>u.getD i (.nil,[]),n,?_,λi f j=> ?_⟩
 ·congr 1;apply Array.toList_inj.1;show a.toList=(List.range b.size).map λi=>a.toList.getD i undef;have y:b.size=a.toList.length:=by rw[<-z,<-l];rfl
  rw[y];exact Nm a.toList undef
 ·have D:i<b.size:=(zAa.1 j).1;obtain⟨o,k⟩:=hone_of c i f j;have g:=B i f j;have e:(Value.cells (.agg a)).toList=a.toList:=rfl;have C:i<a.toList.length:=by rw[Array.length_toList];omega
  rw[o,k,e,take1_drop _ _ undef C]at g;rw[g];have F:i<u.length:=by omega
  simp[F]
theorem Zo {k:IntKind} {e:TypeId} (a:P.underlying e=some (.int k)) {n:Nat} {v:Value} {x:DataW H×List MemPlace} (h:DataW.trod enc P w base spare held n e [v]=some x):∃y:Int,v = .int k y:=by
 obtain⟨y,b,_,_⟩:=DataW.trod_int a h;exact⟨y,by simpa using b⟩
theorem Ob {e:TypeId} (a:P.underlying e=some .bool) {n:Nat} {v:Value} {x:DataW H×List MemPlace} (h:DataW.trod enc P w base spare held n e [v]=some x):∃y:Bool,v = .bool y:=by
 obtain⟨y,b,_⟩:=DataW.trod_bool a h;exact⟨y,by simpa using b⟩
theorem afq {k:IntKind} {t e:TypeId} (r:P.underlying t=some (.array 2 e)) (l:P.underlying e=some (.int k)) (q:P.cellsOf t=2) (g:P.cellsOf e=1) (n:Nat) (c:List Value) (x:DataW H×List MemPlace) (h:DataW.trod enc P w base spare held n t c=some x):
  ∃y:Int×Int,((fT.int k).pair (fT.int k)).R w (λ_=>True) c y:=by
 obtain⟨u,m,_,_,p,s,o⟩:=DataW.trod_array r h;have i:=o 0 (by omega);have j:=o 1 (by omega);rw[zA0 (by omega)]at i j;obtain⟨a,d,_,_⟩:=DataW.trod_int l i;obtain⟨b,f,_,_⟩:=DataW.trod_int l j;rw[q]at p;simp only[g]at d f;refine⟨(a,b),[.int k a],[.int k b],?_,rfl,rfl⟩
 match c,p with
 | [c0,c1],_=>
  simp at d f;rw[d,f];rfl
end
end Go.Sx
section
set_option maxRecDepth 100000
namespace Go.Sx
open Go.RowKit Go.ChangeShapes Go.WideShapes Go.ChangeAt Go.Proofs Go.Joins
theorem TJ {P:Program} {W:World} {n:String} {b m t B:Nat} {k:IntKind} {a:aO} (h:laidMet P [(n,.agg (a.map λx=> .lit (.int k x)))] W) (I:P.globalNamed n=some b)
  (ht:(P.globals[b]?).map (·.type)=some t) (hu:P.underlying t=some (.array m B)) (w:P.underlying B=some (.int k)) (S:P.cellsOf B=1) (u:P.cellsOf t=m) (hm:0<m):(Gb b (cellsOf (fQ.int k) a)).p W (λ_=>True):=by
 obtain⟨ps,⟨g,t2,j,F,p,q,C,D,E,M,e5,N⟩,aa,d⟩:=h;rw[I]at C;cases C;rw[ht]at D;cases D;refine⟨trivial,?_⟩
 obtain⟨L,ml,_,l,Y,y,V⟩:=DataW.trod_array hu M;simp only[Prod.mk.injEq,DataW.agg.injEq]at l;have e:a.length=m:=by rw[<-y];simpa using congrArg List.length l.1
 have U:j.size=m:=by rw[<-u,<-Y];simp
 have v:j.toList=cellsOf (fQ.int k) a:=by
  refine List.ext_getElem? λi=> ?_;by_cases X:i<m
  ·have o:=V i X;rw[S,Nat.mul_one]at o;have J:a[i]? = some (a[i]'(by omega)):=zA0 _;have G:=yO (fQ.int k) a i _ J 0 _ Z;rw[show i*(fQ.int k).sz+0=i from Nat.mul_one i]at G;rw[G];have K:L[i]? = some (L[i]'(by omega)):=zA0 _;rw[K]at o;obtain⟨z,hz,A,_⟩:=DataW.trod_int w o;have s:j.toList[i]? = some (.int k z):=by
    have:=congrArg (·[0]?) hz;simpa [zAs,zAt]using this
   rw[s];have r:=congrArg (·[i]?) l.1;simp only[List.getElem?_map,J,K,Option.map_some,Option.some.injEq]at r;rw[A]at r;have O:a[i]=z:=by simpa using r
   rw[O]
  ·rw[zAr (by simp;omega),zAr (by rw[eZ,e];show m*1<=i;omega)]
 have f:MemPlace.cell b 0∈ps:=by
  rw[N];refine List.mem_append_left _ (List.mem_append_left _ ?_);exact zAn.2 ⟨0,by simp;omega,rfl⟩
 obtain⟨⟨c,T,H⟩,_⟩:=d b 0 f;refine⟨T,?_⟩
 have Q:c=j:=by
  have R:(W.var? P n)=some c:=by unfold World.var?;rw[I];simp[H]
  rw[R]at E;exact Option.some.inj E
 rw[H,Q,<-v]
theorem Rn {H:Type} {enc:TypeId×Value->H} {os:Os} (D:List (String×DataW Unit)) (N:(D.all λx=>x.2.handleName?.isNone)=true) (l:os.Started) {f:FuncId} {c:Func} {s:ChangeSpec} {r:Bool} (L:Tryz.prog.funcs[f]? = some c) (n:Tryz.prog.inits.idxOf? f=none)
  (o:(c.params.toList.all λt=>Tryz.prog.readableRec t&&decide (t<Tryz.prog.types.size))=true) (A:c.resultTypes = #[4]) (k:s.vars=[])
  (u:∀a:List (DataW H),a.length=c.params.toList.length->s.fn H a={results:=[.lit (.bool true)],args:=a})
  (m:∃(w:World) (b:Tape) (i:Input),w.os=os∧(w.forCall b i).Shaped Tryz.prog∧i.vars=[]∧Input.okWide Tryz.prog (w.forCall b i) .any w.heap.size f i∧
   ((s.pre enc Tryz.prog c [] false (w.forCall b i).memory i.args∧laidMetH Tryz.prog D (w.forCall b i).memory)∧sizedMet enc Tryz.prog c (OpenSpec.ofChange s) false (w.forCall b i).memory i.args)∧({}:Assume).holds Tryz.prog (lone (Frame.enter Tryz.prog f i.args .normal) [] (w.forCall b i)))
  (E:∀(W:World) (g:Nat) (args:Array Value) (a:List (DataW H)) (p:List MemPlace),laidMetH Tryz.prog D W->(∀(j:Nat) t v,c.params[j]? = some t->args[j]? = some v->Value.okWide Tryz.prog W .any g t v)->
   DataW.TrodAll enc Tryz.prog W 0 (λ_=>true) true c.params.toList args.toList a p->Calls Tryz.prog f args W λe P=>e = .returned (.bool true)∧OE W P):
  ReturnsInHanded {} Go.Proofs.YtcnnfkapmjhnaaaGreatDoor.Tryz.pinned.checked os f .any (λw args=>(s.pre enc Tryz.prog c [] false w args∧laidMetH Tryz.prog D w)∧sizedMet enc Tryz.prog c (OpenSpec.ofChange s) false w args) (s.post enc Tryz.prog c false r false false):=by
 refine returnsInHanded_of_change_and (C:=Go.Proofs.YtcnnfkapmjhnaaaGreatDoor.Tryz.pinned.checked) (X:=λw _=>laidMetH Tryz.prog D w) (λ_ _ _ U h=>by rw[MakeChecks.laidMetH_plain _ _ _ N]at h ⊢;exact h.of_heap U) ajc l n L m ?_;intro W g args a Y G B J _ _ T _;have M:=J.lt;have K:=J;obtain⟨p,q,I,Q,rfl,_,_⟩:=J;rw[k]at Q;obtain⟨rfl,rfl⟩:=trodVars_none Q;refine(E W g args a p T B I).mono ?_;rintro e P ⟨rfl,R⟩;refine⟨_,rfl,?_⟩
 have z:a.length=c.params.toList.length:=by
  have:∀(F:List TypeId) (y:jB) (a:List (DataW H)) (p:List MemPlace),DataW.TrodAll enc Tryz.prog W 0 (λ_=>true) true F y a p->a.length=F.length:=by
   intro F
   induction F with
   |nil=>intro y a p h;cases y<;>cases a<;>first|rfl|exact h.elim
   | cons t F ih =>
    intro y a p h;cases y with
    |nil=>exact h.elim
    |cons v y=>
     cases a with
     |nil=>exact h.elim
     |cons d a=>obtain⟨_,_,_,S,_⟩:=h;simp[ih y a _ S]
  exact this _ _ _ _ I
 have O:s.fn H (a++[])={results:=[.lit (.bool true)],args:=a}:=by rw[List.append_nil];exact u a z
 refine⟨a,[],p++[],[],p,[],K,?_,?_,?_,R.frame _,λh=>by cases h⟩
 ·rw[O,A];exact trodAll_mk1 (shut_bool Tryz.underlying4 true)
 ·rw[O];exact Hb aho R _ _ _ _ o I (λx V=>M x (List.mem_append_left _ V))
 ·rw[O,k];exact rfl
theorem WX {P:Program} {n:String} {k:IntKind} {a:aO} {W:World} (h:laidMetH P [(n,.agg (a.map λx=> .lit (.int k x)))] W):laidMet P [(n,.agg (a.map λx=> .lit (.int k x)))] W:=by
 rw[MakeChecks.laidMetH_plain _ _ _ (by rfl)]at h;exact h
end Go.Sx
end
