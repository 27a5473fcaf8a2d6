/- Models and proofs. Conditions: none. -/
import Derived.Test.YtpenklncfhiloaaGreatDoorZCLi5
import Derived.Test.YtpenklncfhiloaaGreatDoorZCLi8
import Derived.Test.YtpenklncfhiloaaGreatDoorZCLi7
import Derived.Test.YtpenklncfhiloaaGreatDoorZCLi1
import Derived.OpenShut
import Derived.Test.YtpenklncfhiloaaGreatDoorZCLi2
import Derived.LaidLaws
import Derived.LaidHandle
import Derived.Lay
import Derived.MakeChecks
set_option linter.unusedVariables false
set_option linter.unusedSimpArgs false
set_option maxHeartbeats 4000000
set_option maxRecDepth 20000
section
namespace Go.Proofs.YtpenklncfhiloaaGreatDoor
open Go.Sx
noncomputable def dW  (a:Bool):Option (Bool):=
 some (a)
noncomputable def cH  (a:Bool):Option (Bool):=
 some (a)
noncomputable def mL (U:Nat) (a:a_×Bool) (b:Int) (c:Int) (f:a_×Int) (d:Int×Int×Int×Int×Int×Bool×a_):Option (Bool):=
 ck (0<=b∧b<(List.length a.1:Int)) (ck (0<=(0:Int)∧(0:Int)<(List.length (at' a.1 b):Int)) (ck (0<=c∧c<(List.length a.1:Int)) (ck (0<=(0:Int)∧(0:Int)<(List.length (at' a.1 c):Int)) (Option.bind (nN U) fun e=>(if e=true then(if f.2=(0:Int)then(if d.1=(0:Int)then(if d.2.2.2.2.2.1=true then(if((decide (d.2.2.2.1=(1:Int)))==(decide ((at' (at' a.1 b) (0:Int))=(at' (at' a.1 c) (0:Int)))))=true then(if((decide (d.2.2.2.1=(0:Int)))==(decide (¬((at' (at' a.1 b) (0:Int))=(at' (at' a.1 c) (0:Int))))))=true then(ck (0<=(wI .u64 b)) (ck (0<=(wI .u64 c)) (cH  (decide ((qG .u32 d.2.1 (EH .u32 (xF .u32 (1:Int) (wI .u64 b)) (xF .u32 (1:Int) (wI .u64 c))))=(0:Int))))))else(cH  (false)))else(cH  (false)))else(cH  (false)))else(cH  (false)))else(cH  (false)))else(cH  (false)))))))
noncomputable def jA (U:Nat) (p4:aQ) (g:(aQ×cJ)) (i:a_×Bool) (c:Int) (d:Int) (m:Bool):Option (Bool):=
 if m=true then(some (false))else(Option.bind (lH U) fun n=>(Option.bind (mO U n) fun b=>Qq b.2.2 fun h=>(if c=d then(Option.bind (nN U) fun o=>(some (o)))else(Option.bind (rQ U ((g.1,g.2)) c d) fun p=>(if(0:Int)<=p then(Option.bind (uO U ((g.1,g.2)) c d) fun e=>(Option.bind (lW U ((b.1,b.2.1,h)) ((g.1,g.2)) ((e.1.1,e.1.2)) i.1) fun k=>(Option.bind (nN U) fun q=>(if q=true then(if e.2=(0:Int)then(if k.2=(0:Int)then(Option.bind (qY U ((b.1,b.2.1,h)) ((e.1.1,e.1.2)) k.1) fun r=>(dW  (decide (r=(0:Int)))))else(dW  (false)))else(dW  (false)))else(dW  (false))))))else(Option.bind (oI U ((g.1,g.2)) c d (1:Int)) fun f=>(if f.2≠(0:Int)then(some (false))else(Option.bind (lW U ((b.1,b.2.1,h)) ((g.1,g.2)) ((f.1.1,f.1.2)) i.1) fun l=>(Option.bind (kA U p4 (20:Int)) fun j=>(Option.bind (jI U ((b.1,b.2.1,h)) ((f.1.1,f.1.2)) (2:Int) l.1 j) fun a=>(mL U i c d l (a.2,a.1.1,a.1.2.1,a.1.2.2.1,a.1.2.2.2.1,a.1.2.2.2.2.1,a.1.2.2.2.2.2))))))))))))
noncomputable def nM (U:Nat) (p0:Az) (p1:aQ) (p2:Int) (p3:Int) (p4:aQ):Option (Bool):=
 Option.bind (nA U ((p0.1,p0.2.1,p0.2.2.1,p0.2.2.2.1,p0.2.2.2.2.1,p0.2.2.2.2.2)) (9:Int)) fun r2=>(Option.bind (lH U) fun r8=>(Option.bind (AW U) fun r11=>(Option.bind (lZ U ((r2.1,r2.2)) r11 p1) fun r14=>(Option.bind (mN U r8 ((r2.1,r2.2)) r14) fun r17=>(Option.bind (eQ U p2 (List.length r2.2:Int)) fun r20=>(Option.bind (eQ U p3 (List.length r2.2:Int)) fun r23=>(if(!r17.2)=true then(jA U p4 r2 r17 r20 r23 (true))else(Option.bind (nC U ((r2.1,r2.2)) r17.1) fun r141=>(jA U p4 r2 r17 r20 r23 ((!r141)))))))))))
theorem Aa (U:Nat) {p0:Az} {p1:aQ} {p2:Int} {p3:Int} {p4:aQ} (v0:Value)  (v1:Value)  (v2:Value)  (v3:Value)  (v4:Value) (r:Bool) (h:nM U p0 p1 p2 p3 p4=some r):
  aV Tryz.prog 3 #[Value.agg #[vI (p0.1),v0,v1,v2,vB (p0.2.2.2.2.1),vB (p0.2.2.2.2.2)],v3,vI (p2),vI (p3),v4] [Sl bL v0 p0.2.1,Sl bL v1 p0.2.2.1,Sl bL v2 p0.2.2.2.1,Sl bL v3 p1,Sl wV v4 p4,Gb 0 (cellsOf EK uB)] (fun x:Unit=>vB (r)) (fun x l=>l) (fun _ l=>l):=by
 refine aV.of Tryz.func3 rfl Tryz.ntmps3 rfl fun c=>?_
 refine sqR<|aE (aG.box (cs:=[vI (p0.1),v0,v1,v2,vB (p0.2.2.2.2.1),vB (p0.2.2.2.2.2)]) rfl rfl) rfl fun b1=>qkAsg rfl<|dtN<|sqR<|qkLdA 0 rfl<|bnE h fun r2 w3 h=>aE (aG.callQ ZW (Ev U v0 v1 v2 r2 w3) rfl (iJ [0,1,2] rfl)) rfl fun x4=>aE (aG.alloc (cs:=[eG,eG]) rfl rfl) rfl fun b5=>bJ (Know.one ((aT (aC.res 1 rfl) cW))) fun ho6=>bJ (Know.one (aC.sl (aP (i:=2) (j:=3) rfl rfl aU))) fun ho7=>aY 0 (vs:=[x4.1,x4.2.1]) rfl rfl (cB ho6 (cB ho7 rfl)) rfl rfl rfl<|dtN<|sqR<|qkFld rfl<|qkLd 0 rfl<|aB (iY rfl (aP (i:=2) (j:=3) rfl rfl aU) rfl) rfl<|qkAsg rfl<|dtN<|aH ?_
 refine JR.start [0,0,0,1,0,29,63,127,255,255,511,2047] 11 mixedOrders (by decide +kernel) ?_
 refine JR.open (by exact rfl)<|bnE h fun r8 w9 h=>JR.loud rfl rfl rfl (aG.callQ Xc (Ax U  r8 w9) rfl .nil) rfl (fun x10=>zL.z) fun x10=>bD rfl (aS.cons 0 rfl .nil) .nil (eF 0 rfl rfl rfl rfl) (aK.h (aS.ix [0] rfl rfl) .nil aK.z)<|bD rfl (aS.cons 0 rfl .nil) .nil (eF 0 rfl rfl rfl rfl) (aK.h (aS.ix [0] rfl rfl) .nil aK.z)<|bnE h fun r11 w12 h=>JR.loud rfl rfl rfl (aG.callQ ZZ (KJ U  r11 w12) rfl .nil) rfl (fun x13=>(jM [([1],[]),([1],[])] rfl)) fun x13=>jqN rfl (kT rfl)<|bnE h fun r14 w15 h=>JR.loud rfl rfl rfl (aG.callQ ZY (Il U x4.1 x4.2.1 (List.zip x4.2.2 r2.2) x13 v3 r14 w15) rfl (aA.cons (aT (aC.res 2 rfl) cW) (aA.cons (aP (i:=3) (j:=4) rfl rfl aU) (aA.cons (aT (aC.res 0 rfl) rX) (iJ [3] rfl))))) rfl (fun x16=>(jM [([3],[])] rfl)) fun x16=>bnE h fun r17 w18 h=>JR.loud rfl rfl rfl (aG.callQ ZX (Gm U x4.1 x4.2.1 (List.zip x4.2.2 r2.2) x16.1 (List.zip x16.2 r14) r17 w18) rfl (aA.cons (aT (aC.res 4 rfl) cW) (aA.cons (aP (i:=5) (j:=6) rfl rfl aU) (aA.cons (aP (i:=0) (j:=1) rfl rfl cW) (iJ [5] rfl))))) rfl (fun x19=>(jM [] rfl)) fun x19=>jqN rfl (kT rfl)<|jqN rfl (e_ rfl rfl)<|jqN rfl (e_ rfl rfl)<|jqN rfl (nX rfl)<|bF 11 rfl rfl<|qkAsg rfl<|dtN<|sqR<|qkMove rfl<|qkMove rfl<|bnE h fun r20 w21 h=>aE (aG.callQ CV (gQ U  r20 w21) rfl .nil) rfl fun x22=>qkMove rfl<|qkMove rfl<|bnE h fun r23 w24 h=>aE (aG.callQ CV (gQ U  r23 w24) rfl .nil) rfl fun x25=>qkAsg rfl<|qkAsg rfl<|dtN<|aH<|aH<|midU (fun a27=>jA U p4 r2 r17 r20 r23 a27=some r) (fun a27 b28=>[(2,vI (r20)),(3,vI (r23)),(4,v4),(11,vP b5),(13,x19.1),(55,vB (a27))]) (fun a27 b28=>[Ar c_.raw x19.1 x19.2,gU cE x19.2 r17.1,bS b5 [x4.1,x4.2.1] 28,Ar cE x4.1 r2.1,Ar c_.raw x4.2.1 x4.2.2,gU bH x4.2.2 r2.2]) ?_ ?_
 ·refine aM<|qkMove rfl<|aB (o_ rfl) rfl<|qkMove rfl ?_
  refine qE (by exact rfl) (by exact rfl) (fun hp140=>?_) (fun hp140=>?_)
  ·have h:=Ji hp140 h
   refine gdSkip rfl<|gdSkip rfl<|gdSkip rfl<|gdSkip rfl<|qkPkT rfl<|dtN ?_
   exact bO (true) () h SF (aS.ix [0,1,5,6,7,8] rfl rfl) (aA.refl _ _)
  have h:=Eh hp140 h
  refine aL rfl (eF 5 rfl rfl rfl rfl) rfl<|gyMove rfl<|bnE h fun r141 w142 h=>pB rfl (aG.callQ XK (Ew U x4.1 x4.2.1 (List.zip x4.2.2 r2.2) x19.1 (List.zip x19.2 r17.1) r141 w142) rfl (aA.cons (aT (aC.res 6 rfl) cW) (aA.cons (aP (i:=7) (j:=8) rfl rfl aU) (aA.cons (aP (i:=0) (j:=1) rfl rfl cW) .nil)))) rfl fun x143=>aL rfl (o_ rfl) rfl<|qkPkF rfl<|dtN ?_
  exact bO ((!r141)) () h SF (aS.ix [0,1,5,6,7,8] rfl rfl) (aA.refl _ _)
 intro a27 b28 h
 refine zQ h rfl (fun _ h=>?_) fun _ h=>?_
 ·refine sqR<|qkAsg rfl<|dtN<|aN<|aI ?_
  cases h
  exact vH rfl
 refine cL<|sqR<|bnE h fun r30 w31 h=>aE (aG.callQ Xc (Ax U  r30 w31) rfl .nil) rfl fun x32=>bnE h fun r33 w34 h=>aE (aG.call ES (pQ U r33 w34) rfl (lA 5 rfl) (fun _ _=>rfl) (fun _ _=>rfl)) rfl fun⟨x35a,x35b,z36,hz37⟩=>?_
 have h:=Aj h z36 hz37
 refine aE (aG.alloc (cs:=[vS (ByteArray.mk #[]),eG,eG]) rfl rfl) rfl fun b38=>bJ (Know.one ((aC.fact 0 rfl))) fun ho39=>bJ (Know.one ((aC.fact 1 rfl))) fun ho40=>aY 0 (vs:=[vS (r33.1),x35a,x35b]) rfl rfl (cB rfl (cB ho39 (cB ho40 rfl))) rfl rfl rfl<|dtN<|aH<|sqR<|qkMove rfl<|qkMove rfl<|qkEql rfl<|dtN ?_
 refine eZ h rfl (fun h=>?_) fun h=>?_
 ·refine sqR<|bnE h fun r42 w43 h=>aE (aG.callQ Kc (Ab U  r42 w43) rfl (iJ [8] rfl)) rfl fun x44=>qkAsg rfl<|dtN<|aN<|aI ?_
  cases h
  exact vH rfl
 refine cL<|aH<|sqR<|qkLdA 3 rfl<|qkMove rfl<|qkMove rfl<|bnE h fun r45 w46 h=>aE (aG.callQ XL (KI U x4.1 x4.2.1 (List.zip x4.2.2 r2.2) r45 w46) rfl (aA.cons (aT (aC.res 4 rfl) cW) (aA.cons (aP (i:=5) (j:=6) rfl rfl aU) .nil))) rfl fun x47=>aB (Bf rfl rfl) rfl<|dtN ?_
 refine eZ h rfl (fun h=>?_) fun h=>?_
 ·refine sqR<|qkLdA 3 rfl<|qkMove rfl<|qkMove rfl<|bnE h fun r49 w50 h=>aE (aG.callQ XM (KH U x4.1 x4.2.1 (List.zip x4.2.2 r2.2) r49 w50) rfl (aA.cons (aT (aC.res 4 rfl) cW) (aA.cons (aP (i:=5) (j:=6) rfl rfl aU) .nil))) rfl fun x51=>qkMove rfl<|qkExt rfl<|qkExt rfl<|aE (aG.alloc (cs:=[eG,eG]) rfl rfl) rfl fun b52=>bJ (Know.one ((aT (aC.res 1 rfl) cW))) fun ho53=>bJ (Know.one (aC.sl (aP (i:=2) (j:=3) rfl rfl aU))) fun ho54=>aY 0 (vs:=[x51.1,x51.2.1]) rfl rfl (cB ho53 (cB ho54 rfl)) rfl rfl rfl<|qkAsg rfl<|dtN<|sqR<|qkLdA 4 rfl<|qkLdA 7 rfl<|qkLdA 0 rfl<|qkMove rfl<|bnE h fun r55 w56 h=>aE (aG.callQ Sw (BZ U x35a x35b x4.1 x4.2.1 (List.zip x4.2.2 r2.2) x51.1 x51.2.1 (List.zip x51.2.2 r49.1.2) x19.1 (List.zip x19.2 r17.1) r55 w56) rfl (aA.cons (aC.fact 0 rfl) (aA.cons (aC.fact 1 rfl) (aA.cons (aC.fact 2 rfl) (aA.cons (aT (aC.res 8 rfl) cW) (aA.cons (aP (i:=9) (j:=10) rfl rfl aU) (aA.cons (aT (aC.res 1 rfl) cW) (aA.cons (aP (i:=2) (j:=3) rfl rfl aU) (aA.cons (aP (i:=5) (j:=6) rfl rfl cW) .nil))))))))) rfl fun x57=>qkMove rfl<|qkExt rfl<|qkExt rfl<|qkAsg rfl<|qkAsg rfl<|dtN<|aH<|xC (B:=Unit) (fun a59=>dW  a59=some r) (fun a59 b60=>[(10,vB (a59))]) (fun a59 b60=>[]) (fun a59 b60=>[Sl aJ x35a r33.2.1,Sl aF x35b z36,PF (Value.agg #[vS r33.1,x35a,x35b]),Sl bL v0 p0.2.1,Sl bL v1 p0.2.2.1,Sl bL v2 p0.2.2.2.1,Sl bL v3 p1,Sl wV v4 p4,Gb 0 (cellsOf EK uB)]) ?_ ?_
  ·refine aM<|bnE h fun r61 w62 h=>aE (aG.callQ Kc (Ab U  r61 w62) rfl (iJ [8] rfl)) rfl fun x63=>qkMove rfl ?_
   refine qE (by exact rfl) (by exact rfl) (fun hp64=>?_) (fun hp64=>?_)
   ·have h:=Ji hp64 h
    refine gyMove rfl<|aL rfl (yE rfl rfl) rfl<|qkPkT rfl<|qkMove rfl ?_
    refine AS h rfl (fun _ h=>?_) fun _ h=>?_
    ·refine gyMove rfl<|aL rfl (yE rfl rfl) rfl<|qkPkT rfl<|qkMove rfl ?_
     refine AS h rfl (fun _ h=>?_) fun _ h=>?_
     ·refine aL rfl (eF 6 rfl rfl rfl rfl) rfl<|aL rfl (eF 2 rfl rfl rfl rfl) rfl<|gyMove rfl<|bnE h fun r67 w68 h=>pB rfl (aG.callQ XN (Ik U x35a x35b x51.1 x51.2.1 (List.zip x51.2.2 r49.1.2) x57.1 (List.zip x57.2 r55.1) r67 w68) rfl (aA.cons (aC.fact 0 rfl) (aA.cons (aC.fact 1 rfl) (aA.cons (aC.fact 2 rfl) (aA.cons (aT (aC.res 3 rfl) cW) (aA.cons (aP (i:=4) (j:=5) rfl rfl aU) (aA.cons (aP (i:=0) (j:=1) rfl rfl cW) .nil))))))) rfl fun x69=>aL rfl (yE rfl rfl) rfl<|qkPkT rfl<|qkAsg rfl<|dtN ?_
      exact bO (decide (r67=(0:Int))) () h SF .nil (aA.refl _ _)
     refine gdSkip rfl<|gdSkip rfl<|gdSkip rfl<|gdSkip rfl<|gdSkip rfl<|qkPkF rfl<|qkAsg rfl<|dtN ?_
     exact bO (false) () h SF .nil (aA.refl _ _)
    refine gdSkip rfl<|gdSkip rfl<|qkPkF rfl<|qkMove rfl<|gdSkip rfl<|gdSkip rfl<|gdSkip rfl<|gdSkip rfl<|gdSkip rfl<|qkPkF rfl<|qkAsg rfl<|dtN ?_
    exact bO (false) () h SF .nil (aA.refl _ _)
   have h:=Eh hp64 h
   refine gdSkip rfl<|gdSkip rfl<|qkPkF rfl<|qkMove rfl<|gdSkip rfl<|gdSkip rfl<|qkPkF rfl<|qkMove rfl<|gdSkip rfl<|gdSkip rfl<|gdSkip rfl<|gdSkip rfl<|gdSkip rfl<|qkPkF rfl<|qkAsg rfl<|dtN ?_
   exact bO (false) () h SF .nil (aA.refl _ _)
  intro a59 b60 h
  unfold dW at h
  refine aN<|aI ?_
  cases h
  exact lD rfl
 refine cL<|sqR<|qkLdA 3 rfl<|qkMove rfl<|qkMove rfl<|bnE h fun r70 w71 h=>aE (aG.callQ XO (Fx U x4.1 x4.2.1 (List.zip x4.2.2 r2.2) r70 w71) rfl (aA.cons (aT (aC.res 4 rfl) cW) (aA.cons (aP (i:=5) (j:=6) rfl rfl aU) .nil))) rfl fun x72=>qkMove rfl<|qkExt rfl<|qkExt rfl<|aE (aG.alloc (cs:=[eG,eG]) rfl rfl) rfl fun b73=>bJ (Know.one ((aT (aC.res 1 rfl) cW))) fun ho74=>bJ (Know.one (aC.sl (aP (i:=2) (j:=3) rfl rfl aU))) fun ho75=>aY 0 (vs:=[x72.1,x72.2.1]) rfl rfl (cB ho74 (cB ho75 rfl)) rfl rfl rfl<|qkAsg rfl<|dtN<|aH<|sqR<|qkMove rfl<|qkNeq rfl<|dtN ?_
 refine eZ h rfl (fun h=>?_) fun h=>?_
 ·refine sqR<|qkAsg rfl<|dtN<|aN<|aI ?_
  cases h
  exact vH rfl
 refine cL<|sqR<|qkLdA 4 rfl<|qkLdA 7 rfl<|qkLdA 0 rfl<|qkMove rfl<|bnE h fun r77 w78 h=>aE (aG.callQ Sw (BZ U x35a x35b x4.1 x4.2.1 (List.zip x4.2.2 r2.2) x72.1 x72.2.1 (List.zip x72.2.2 r70.1.2) x19.1 (List.zip x19.2 r17.1) r77 w78) rfl (aA.cons (aC.fact 0 rfl) (aA.cons (aC.fact 1 rfl) (aA.cons (aC.fact 2 rfl) (aA.cons (aT (aC.res 8 rfl) cW) (aA.cons (aP (i:=9) (j:=10) rfl rfl aU) (aA.cons (aT (aC.res 1 rfl) cW) (aA.cons (aP (i:=2) (j:=3) rfl rfl aU) (aA.cons (aP (i:=5) (j:=6) rfl rfl cW) .nil))))))))) rfl fun x79=>qkMove rfl<|qkExt rfl<|qkExt rfl<|qkAsg rfl<|qkAsg rfl<|dtN<|aH<|xC (B:=Nat×Value×List Value) (fun a90=>mL U r17 r20 r23 r77 a90=some r) (fun a90 b91=>[(2,vI (r20)),(3,vI (r23)),(13,x19.1),(23,vI (r77.2)),(24,vP b91.1),(25,vI (a90.1))]) (fun a90 b91=>[bS b91.1 [vU (a90.2.1),vI (a90.2.2.1),vI (a90.2.2.2.1),vI (a90.2.2.2.2.1),vB (a90.2.2.2.2.2.1),b91.2.1] 54,Ar c_.raw b91.2.1 b91.2.2,gU cE b91.2.2 a90.2.2.2.2.2.2,Ar c_.raw x19.1 x19.2,gU cE x19.2 r17.1]) (fun a90 b91=>[Sl aJ x35a r33.2.1,Sl aF x35b z36,PF (Value.agg #[vS r33.1,x35a,x35b]),Sl bL v0 p0.2.1,Sl bL v1 p0.2.2.1,Sl bL v2 p0.2.2.2.1,Sl bL v3 p1,Sl wV v4 p4,Gb 0 (cellsOf EK uB)]) ?_ ?_
 ·have⟨r116,w117,h⟩:=ZV h
  refine bnE h fun r119 w120 h=>Ad [0,0,0,0,8,31,63,127,127,0,767,2047] 11 [[0,1,2,3,4,5,6,7,8,9,10,11],[0,1,2,3,4,9,5,6,7,8,10,11],[0,1,2,3,9,4,5,6,7,8,10,11]] mixedOrders (by decide +kernel) (by decide +kernel) ?_
  intro o ho
  simp only[List.mem_cons,List.not_mem_nil,or_false]at ho
  rcases ho with rfl|rfl|rfl
  ·refine jkLdA 6 rfl<|jkLdA 2 rfl<|jkMove rfl<|jkMove rfl<|JR.loud rfl rfl rfl (aG.callQ Dn (mA U v4 r116 w117) rfl (iJ [7] rfl)) rfl (fun x125=>(jM [([3],[]),([7],[])] rfl)) fun x125=>JR.loud rfl rfl rfl (aG.callQ NE (qB U x35a x35b x72.1 x72.2.1 (List.zip x72.2.2 r70.1.2) x79.1 (List.zip x79.2 r77.1) x125 r119 w120) rfl (aA.cons (aC.fact 0 rfl) (aA.cons (aC.fact 1 rfl) (aA.cons (aC.fact 2 rfl) (aA.cons (aT (aC.res 4 rfl) cW) (aA.cons (aP (i:=5) (j:=6) rfl rfl aU) (aA.cons (aP (i:=1) (j:=2) rfl rfl cW) (aA.cons (aT (aC.res 0 rfl) jP) (iJ [8] rfl))))))))) rfl (fun x126=>(jM [] rfl)) fun x126=>jqN rfl (kT rfl)<|jqN rfl (e_ rfl rfl)<|jqN rfl (e_ rfl rfl)<|JR.loud rfl rfl rfl (aG.alloc (cs:=vD4) rfl rfl) rfl (fun b127=>(jM [([6],[]),([10],[])] rfl)) fun b127=>bN (Know.one (aC.sl (aP (i:=1) (j:=2) rfl rfl cW))) fun ho129=>pH rfl rfl rfl (nK 0 (vs:=[vU (r119.1.1),vI (r119.1.2.1),vI (r119.1.2.2.1),vI (r119.1.2.2.2.1),vB (r119.1.2.2.2.2.1),x126.1]) rfl rfl (cB rfl (cB rfl (cB rfl (cB rfl (cB rfl (cB ho129 rfl)))))) rfl rfl rfl) (fun x128=>(jM [] rfl)) fun x128=>bF 11 rfl rfl<|qkAsg rfl<|dtN ?_
   exact bO (r119.2,r119.1.1,r119.1.2.1,r119.1.2.2.1,r119.1.2.2.2.1,r119.1.2.2.2.2.1,r119.1.2.2.2.2.2) (b127,x126.1,x126.2) h SF (aS.ix [0,1,2,11,12] rfl rfl) (aA.refl _ _)
  ·refine jkLdA 6 rfl<|jkLdA 2 rfl<|jkMove rfl<|jkMove rfl<|JR.loud rfl rfl rfl (aG.callQ Dn (mA U v4 r116 w117) rfl (iJ [7] rfl)) rfl (fun x130=>(jM [([3],[]),([7],[])] rfl)) fun x130=>JR.loud rfl rfl rfl (aG.alloc (cs:=vD4) rfl rfl) rfl (fun b131=>(jM [([4],[]),([8],[])] rfl)) fun b131=>JR.loud rfl rfl rfl (aG.callQ NE (qB U x35a x35b x72.1 x72.2.1 (List.zip x72.2.2 r70.1.2) x79.1 (List.zip x79.2 r77.1) x130 r119 w120) rfl (aA.cons (aC.fact 0 rfl) (aA.cons (aC.fact 1 rfl) (aA.cons (aC.fact 2 rfl) (aA.cons (aT (aC.res 5 rfl) cW) (aA.cons (aP (i:=6) (j:=7) rfl rfl aU) (aA.cons (aP (i:=2) (j:=3) rfl rfl cW) (aA.cons (aT (aC.res 1 rfl) jP) (iJ [8] rfl))))))))) rfl (fun x132=>(jM [] rfl)) fun x132=>jqN rfl (kT rfl)<|jqN rfl (e_ rfl rfl)<|jqN rfl (e_ rfl rfl)<|bN (Know.one (aC.sl (aP (i:=0) (j:=1) rfl rfl cW))) fun ho134=>pH rfl rfl rfl (nK 2 (vs:=[vU (r119.1.1),vI (r119.1.2.1),vI (r119.1.2.2.1),vI (r119.1.2.2.2.1),vB (r119.1.2.2.2.2.1),x132.1]) rfl rfl (cB rfl (cB rfl (cB rfl (cB rfl (cB rfl (cB ho134 rfl)))))) rfl rfl rfl) (fun x133=>(jM [] rfl)) fun x133=>bF 11 rfl rfl<|qkAsg rfl<|dtN ?_
   exact bO (r119.2,r119.1.1,r119.1.2.1,r119.1.2.2.1,r119.1.2.2.2.1,r119.1.2.2.2.2.1,r119.1.2.2.2.2.2) (b131,x132.1,x132.2) h SF (aS.ix [2,0,1,11,12] rfl rfl) (aA.refl _ _)
  refine jkLdA 6 rfl<|jkLdA 2 rfl<|jkMove rfl<|jkMove rfl<|JR.loud rfl rfl rfl (aG.alloc (cs:=vD4) rfl rfl) rfl (fun b135=>(jM [([3],[]),([7],[])] rfl)) fun b135=>JR.loud rfl rfl rfl (aG.callQ Dn (mA U v4 r116 w117) rfl (iJ [7] rfl)) rfl (fun x136=>(jM [([4],[]),([8],[])] rfl)) fun x136=>JR.loud rfl rfl rfl (aG.callQ NE (qB U x35a x35b x72.1 x72.2.1 (List.zip x72.2.2 r70.1.2) x79.1 (List.zip x79.2 r77.1) x136 r119 w120) rfl (aA.cons (aC.fact 0 rfl) (aA.cons (aC.fact 1 rfl) (aA.cons (aC.fact 2 rfl) (aA.cons (aT (aC.res 5 rfl) cW) (aA.cons (aP (i:=6) (j:=7) rfl rfl aU) (aA.cons (aP (i:=2) (j:=3) rfl rfl cW) (aA.cons (aT (aC.res 0 rfl) jP) (iJ [8] rfl))))))))) rfl (fun x137=>(jM [] rfl)) fun x137=>jqN rfl (kT rfl)<|jqN rfl (e_ rfl rfl)<|jqN rfl (e_ rfl rfl)<|bN (Know.one (aC.sl (aP (i:=0) (j:=1) rfl rfl cW))) fun ho139=>pH rfl rfl rfl (nK 3 (vs:=[vU (r119.1.1),vI (r119.1.2.1),vI (r119.1.2.2.1),vI (r119.1.2.2.2.1),vB (r119.1.2.2.2.2.1),x137.1]) rfl rfl (cB rfl (cB rfl (cB rfl (cB rfl (cB rfl (cB ho139 rfl)))))) rfl rfl rfl) (fun x138=>(jM [] rfl)) fun x138=>bF 11 rfl rfl<|qkAsg rfl<|dtN ?_
  exact bO (r119.2,r119.1.1,r119.1.2.1,r119.1.2.2.1,r119.1.2.2.2.1,r119.1.2.2.2.2.1,r119.1.2.2.2.2.2) (b135,x137.1,x137.2) h SF (aS.ix [3,0,1,11,12] rfl rfl) (aA.refl _ _)
 intro a90 b91 h
 refine aH ?_
 refine JR.start [0,0,3,7,15,31,0,0,192,448,960,1984,4095,8191] 12 mixedOrders (by decide +kernel) ?_
 refine JR.open (by exact rfl) ?_
 refine jkMove rfl<|jkMove rfl<|ckE h fun j92 h=>bN (bZ 4 rfl) fun hl93=>?_
 refine bD rfl (aS.cons 3 rfl .nil) .nil (eM 0 rfl rfl rfl rfl rfl j92.1 (by have q1:=j92.2;have q2:=hl93;(try simp only[List.length_set]at q1);(try simp only[List.length_set]at q2);(try simp only[List.length_set]);omega)) aK.z ?_
 refine bN (bZ 4 rfl) fun hl94=>bD rfl (aS.cons 3 rfl .nil) .nil (gZ 0 rfl rfl hl94 rfl rfl j92) aK.z<|ckE h fun j95 h=>bN (Know.len (aC.row (j:=4) rfl cW j92.1 j92.2)) fun hl96=>jqN rfl (DX rfl rfl hl96 rfl rfl j95)<|bD rfl (aS.cons 4 rfl .nil) .nil (cK rfl (aC.row (j:=0) rfl cW j92.1 j92.2) rfl rfl rfl fE j95) aK.z<|jkMove rfl<|jkMove rfl<|ckE h fun j97 h=>bN (bZ 4 rfl) fun hl98=>?_
 refine bD rfl (aS.cons 3 rfl .nil) .nil (eM 0 rfl rfl rfl rfl rfl j97.1 (by have q1:=j97.2;have q2:=hl98;(try simp only[List.length_set]at q1);(try simp only[List.length_set]at q2);(try simp only[List.length_set]);omega)) aK.z ?_
 refine bN (bZ 4 rfl) fun hl99=>bD rfl (aS.cons 3 rfl .nil) .nil (gZ 0 rfl rfl hl99 rfl rfl j97) aK.z<|ckE h fun j100 h=>bN (Know.len (aC.row (j:=4) rfl cW j97.1 j97.2)) fun hl101=>jqN rfl (DX rfl rfl hl101 rfl rfl j100)<|bD rfl (aS.cons 4 rfl .nil) .nil (cK rfl (aC.row (j:=0) rfl cW j97.1 j97.2) rfl rfl rfl fE j100) aK.z<|bF 12 rfl rfl<|qkEql rfl<|qkAsg rfl<|dtN<|aH<|xC (B:=Unit) (fun a103=>cH  a103=some r) (fun a103 b104=>[(10,vB (a103))]) (fun a103 b104=>[]) (fun a103 b104=>[Sl aJ x35a r33.2.1,Sl aF x35b z36,PF (Value.agg #[vS r33.1,x35a,x35b]),Sl bL v0 p0.2.1,Sl bL v1 p0.2.2.1,Sl bL v2 p0.2.2.2.1,Sl bL v3 p1,Sl wV v4 p4,Gb 0 (cellsOf EK uB)]) ?_ ?_
 ·refine aM<|bnE h fun r105 w106 h=>aE (aG.callQ Kc (Ab U  r105 w106) rfl (iJ [8] rfl)) rfl fun x107=>qkMove rfl ?_
  refine qE (by exact rfl) (by exact rfl) (fun hp108=>?_) (fun hp108=>?_)
  ·have h:=Ji hp108 h
   refine gyMove rfl<|aL rfl (yE rfl rfl) rfl<|qkPkT rfl<|qkMove rfl ?_
   refine AS h rfl (fun _ h=>?_) fun _ h=>?_
   ·refine gyMove rfl<|aL rfl (yE rfl rfl) rfl<|qkPkT rfl<|qkMove rfl ?_
    refine AS h rfl (fun _ h=>?_) fun _ h=>?_
    ·refine aL rfl (dD rfl rfl rfl rfl rfl) rfl<|aL rfl (d_ 0 rfl rfl rfl rfl rfl) rfl<|qkPkT rfl<|qkMove rfl ?_
     refine qE (by exact rfl) (by exact rfl) (fun hp111=>?_) (fun hp111=>?_)
     ·have h:=Ji hp111 h
      refine aL rfl (dD rfl rfl rfl rfl rfl) rfl<|aL rfl (d_ 0 rfl rfl rfl rfl rfl) rfl<|aL rfl (yE rfl rfl) rfl<|gyMove rfl<|aL rfl (Sg rfl rfl rfl) rfl<|qkPkT rfl<|qkMove rfl ?_
      refine qE (by exact rfl) (by exact rfl) (fun hp112=>?_) (fun hp112=>?_)
      ·have h:=Ji hp112 h
       refine aL rfl (dD rfl rfl rfl rfl rfl) rfl<|aL rfl (d_ 0 rfl rfl rfl rfl rfl) rfl<|aL rfl (yE rfl rfl) rfl<|gyMove rfl<|aL rfl (Sj rfl) rfl<|aL rfl (Sg rfl rfl rfl) rfl<|qkPkT rfl<|qkMove rfl ?_
       refine qE (by exact rfl) (by exact rfl) (fun hp113=>?_) (fun hp113=>?_)
       ·have h:=Ji hp113 h
        refine aL rfl (dD rfl rfl rfl rfl rfl) rfl<|aL rfl (d_ 0 rfl rfl rfl rfl rfl) rfl<|gyMove rfl<|aL rfl (EN rfl rfl rfl) rfl<|ckE h fun j114 h=>aL rfl (FL rfl rfl j114) rfl<|gyMove rfl<|aL rfl (EN rfl rfl rfl) rfl<|ckE h fun j115 h=>aL rfl (FL rfl rfl j115) rfl<|aL rfl (Nz rfl rfl) rfl<|aL rfl (DW rfl rfl) rfl<|aL rfl (yE rfl rfl) rfl<|qkPkT rfl<|qkAsg rfl<|dtN ?_
        exact bO (decide ((qG .u32 a90.2.1 (EH .u32 (xF .u32 (1:Int) (wI .u64 r20)) (xF .u32 (1:Int) (wI .u64 r23))))=(0:Int))) () h SF .nil (aA.refl _ _)
       have h:=Eh hp113 h
       refine gdSkip rfl<|gdSkip rfl<|gdSkip rfl<|gdSkip rfl<|gdSkip rfl<|gdSkip rfl<|gdSkip rfl<|gdSkip rfl<|gdSkip rfl<|gdSkip rfl<|gdSkip rfl<|qkPkF rfl<|qkAsg rfl<|dtN ?_
       exact bO (false) () h SF .nil (aA.refl _ _)
      have h:=Eh hp112 h
      refine gdSkip rfl<|gdSkip rfl<|gdSkip rfl<|gdSkip rfl<|gdSkip rfl<|gdSkip rfl<|qkPkF rfl<|qkMove rfl<|gdSkip rfl<|gdSkip rfl<|gdSkip rfl<|gdSkip rfl<|gdSkip rfl<|gdSkip rfl<|gdSkip rfl<|gdSkip rfl<|gdSkip rfl<|gdSkip rfl<|gdSkip rfl<|qkPkF rfl<|qkAsg rfl<|dtN ?_
      exact bO (false) () h SF .nil (aA.refl _ _)
     have h:=Eh hp111 h
     refine gdSkip rfl<|gdSkip rfl<|gdSkip rfl<|gdSkip rfl<|gdSkip rfl<|qkPkF rfl<|qkMove rfl<|gdSkip rfl<|gdSkip rfl<|gdSkip rfl<|gdSkip rfl<|gdSkip rfl<|gdSkip rfl<|qkPkF rfl<|qkMove rfl<|gdSkip rfl<|gdSkip rfl<|gdSkip rfl<|gdSkip rfl<|gdSkip rfl<|gdSkip rfl<|gdSkip rfl<|gdSkip rfl<|gdSkip rfl<|gdSkip rfl<|gdSkip rfl<|qkPkF rfl<|qkAsg rfl<|dtN ?_
     exact bO (false) () h SF .nil (aA.refl _ _)
    refine gdSkip rfl<|gdSkip rfl<|qkPkF rfl<|qkMove rfl<|gdSkip rfl<|gdSkip rfl<|gdSkip rfl<|gdSkip rfl<|gdSkip rfl<|qkPkF rfl<|qkMove rfl<|gdSkip rfl<|gdSkip rfl<|gdSkip rfl<|gdSkip rfl<|gdSkip rfl<|gdSkip rfl<|qkPkF rfl<|qkMove rfl<|gdSkip rfl<|gdSkip rfl<|gdSkip rfl<|gdSkip rfl<|gdSkip rfl<|gdSkip rfl<|gdSkip rfl<|gdSkip rfl<|gdSkip rfl<|gdSkip rfl<|gdSkip rfl<|qkPkF rfl<|qkAsg rfl<|dtN ?_
    exact bO (false) () h SF .nil (aA.refl _ _)
   refine gdSkip rfl<|gdSkip rfl<|qkPkF rfl<|qkMove rfl<|gdSkip rfl<|gdSkip rfl<|qkPkF rfl<|qkMove rfl<|gdSkip rfl<|gdSkip rfl<|gdSkip rfl<|gdSkip rfl<|gdSkip rfl<|qkPkF rfl<|qkMove rfl<|gdSkip rfl<|gdSkip rfl<|gdSkip rfl<|gdSkip rfl<|gdSkip rfl<|gdSkip rfl<|qkPkF rfl<|qkMove rfl<|gdSkip rfl<|gdSkip rfl<|gdSkip rfl<|gdSkip rfl<|gdSkip rfl<|gdSkip rfl<|gdSkip rfl<|gdSkip rfl<|gdSkip rfl<|gdSkip rfl<|gdSkip rfl<|qkPkF rfl<|qkAsg rfl<|dtN ?_
   exact bO (false) () h SF .nil (aA.refl _ _)
  have h:=Eh hp108 h
  refine gdSkip rfl<|gdSkip rfl<|qkPkF rfl<|qkMove rfl<|gdSkip rfl<|gdSkip rfl<|qkPkF rfl<|qkMove rfl<|gdSkip rfl<|gdSkip rfl<|qkPkF rfl<|qkMove rfl<|gdSkip rfl<|gdSkip rfl<|gdSkip rfl<|gdSkip rfl<|gdSkip rfl<|qkPkF rfl<|qkMove rfl<|gdSkip rfl<|gdSkip rfl<|gdSkip rfl<|gdSkip rfl<|gdSkip rfl<|gdSkip rfl<|qkPkF rfl<|qkMove rfl<|gdSkip rfl<|gdSkip rfl<|gdSkip rfl<|gdSkip rfl<|gdSkip rfl<|gdSkip rfl<|gdSkip rfl<|gdSkip rfl<|gdSkip rfl<|gdSkip rfl<|gdSkip rfl<|qkPkF rfl<|qkAsg rfl<|dtN ?_
  exact bO (false) () h SF .nil (aA.refl _ _)
 intro a103 b104 h
 unfold cH at h
 refine aN ?_
 cases h
 exact lD rfl
end Go.Proofs.YtpenklncfhiloaaGreatDoor
end
section
namespace Go.Proofs.YtpenklncfhiloaaGreatDoor
open Go Go.Sx
def aaY (g:GR) (a b:Nat) (e:a_) (f:Int) (k:Nat) (c:a_) (ch:gJ) (d:CT):Prop:=
 (k=0∧c=e∧ch=[]∧d=(0,0,0,0,f))∨(k=1∧(∀v,v<g.2.length->¬vD g c v)∧IA g c eY∧CK e a=CK e b∧d.2.1=1∧∃v,(v=a∨v=b)∧ch=[2^v])
theorem NZ (x:Nr) (raw:aQ) (p2 p3:Int) (wishes:aQ):nM 1000 x raw p2 p3 wishes=some true:=by
 obtain⟨g,hg,hVM,hn9⟩:=XF x 9 (by omega) (by omega)
 have hV:VG g:=hVM.vg
 have h24:=hV.n24
 have hn1:=hV.n1
 obtain⟨c00,hc,hc00⟩:=QD hV eY raw (by decide) aaO
 obtain⟨cl,hset,hcl,hok⟩:=MF hV hn9 hc00
 have hcll:=hcl.len
 have hw2:=p_ p2 (g.2.length:Int) (by omega) (by omega)
 have hw3:=p_ p3 (g.2.length:Int) (by omega) (by omega)
 have r2:=Int.emod_nonneg p2 (show(g.2.length:Int)≠0 by omega)
 have r2':=Int.emod_lt_of_pos p2 (show 0<(g.2.length:Int) by omega)
 have r3:=Int.emod_nonneg p3 (show(g.2.length:Int)≠0 by omega)
 have r3':=Int.emod_lt_of_pos p3 (show 0<(g.2.length:Int) by omega)
 obtain⟨a,ha⟩:∃a:Nat,p2%(g.2.length:Int)=(a:Int):=⟨(p2%(g.2.length:Int)).toNat,by omega⟩
 obtain⟨b,hb⟩:∃b:Nat,p3%(g.2.length:Int)=(b:Int):=⟨(p3%(g.2.length:Int)).toNat,by omega⟩
 rw[ha]at hw2 r2'
 rw[hb]at hw3 r3'
 have han:a<g.2.length:=by omega
 have hbn:b<g.2.length:=by omega
 obtain⟨ws,hws,hwl,hwb⟩:=JD wishes (n:=20) (by omega)
 unfold nM
 rw[show nA 1000 (x.1,x.2.1,x.2.2.1,x.2.2.2.1,x.2.2.2.2.1,x.2.2.2.2.2) 9=some g from hg,aZ rfl,aZ (show lH 1000=some zV from rfl),Zn,aZ rfl,show lZ 1000 (g.1,g.2) eY raw=some c00 from hc,aZ rfl,aZ (show mN 1000 zV (g.1,g.2) c00=_ from hset),aZ hw2,aZ hw3,if_neg (by simp),aZ (show nC 1000 (g.1,g.2) cl=_ from QW hV hcl hok)]
 unfold jA
 rw[if_neg (by decide),aZ (show lH 1000=some zV from rfl),aZ (Mt 1000)]
 refine OH fun z hz=> ?_
 have hz:z.map vW=CL RC:=hz
 by_cases hab:a=b
 ·rw[if_pos (by omega),aZ (show nN 1000=some true from rfl)]
 rw[if_neg (by omega),aZ (show rQ 1000 (g.1,g.2) (a:Int) (b:Int)=_ from Oe g a (b:Int) han (by have:=(hV.node a han).deg;omega))]
 rcases rT (row g a) (b:Int)with⟨i,hi,hib,_,hpi⟩|⟨hno,hpi⟩
 ·obtain⟨j,hj,hpj⟩:=Re hV han hi hib
  have hja:(fX (row g b) j).1=(a:Int):=by
   rcases rT (row g b) (a:Int)with⟨q,_,hq,_,e⟩|⟨_,e⟩
   ·rw[hpj]at e
    obtain rfl:j=q:=by omega
    exact hq
   ·rw[hpj]at e;omega
  have hVc:=QE hV han hbn hab hi hj hib hja
  have hlc:(zR g a b i j).2.length=g.2.length:=by simp[zR]
  have hcr:IA (zR g a b i j) cl eY:=Ft hlc hcl
  have hen:VX (bY (pC z) (zR g a b i j)) RC cl=0:=Cw fun v=>by
   rw[Pb]
   by_cases hv:v<(bY (pC z) (zR g a b i j)).2.1.2.length
   ·have hv':v<g.2.length:=by rw[<-hlc];exact hv
    rw[decide_eq_false (show¬0<=uU (bY (pC z) (zR g a b i j)) RC cl v from fun q=>hok v hv' (Ta han hbn hi hj (wB.1 q)))];simp
   ·rw[decide_eq_false hv];simp
  rw[hpi,if_pos (by omega),aZ (show uO 1000 (g.1,g.2) (a:Int) (b:Int)=_ from QK hV han hbn hab hi hpi hj hpj)]
  refine(aZ (show lW 1000 (pC z) g (zR g a b i j) cl=_ from IT hV hVc hlc _ z hcl)).trans ?_
  rw[aZ (show nN 1000=some true from rfl),if_pos rfl,if_pos rfl,if_pos rfl]
  refine(aZ (show qY 1000 (pC z) (zR g a b i j) cl=_ from Ic (p:=pC z) hVc (MY hVc) hz KA hcr)).trans ?_
  unfold dW
  rw[hen];rfl
 ·have hVc:=QB (w:=1) hV han hbn hab hpi (by omega)
  have hlc:(kY g a b 1).2.length=g.2.length:=by simp[kY]
  have hcr:IA (kY g a b 1) cl eY:=Ft hlc hcl
  have hA24:gO (kY g a b 1)<16777216:=by
   have:(2:Nat)^(kY g a b 1).2.length<=2^24:=Nat.pow_le_pow_right (by omega) (by omega)
   have:=Nat.two_pow_pos (kY g a b 1).2.length
   unfold gO;omega
  have hen24:∀c,vC (bY (pC z) (kY g a b 1)) RC (gO (kY g a b 1)) c<16777216:=fun c=>Nat.lt_of_le_of_lt Nat.and_le_right hA24
  have hcon:∀v,vD (kY g a b 1) cl v->v<g.2.length->(v=a∨v=b)∧CK cl a=CK cl b:=fun v h hv=>by
   rcases SU han hbn hab h with q|q
   ·exact absurd q (hok v hv)
   ·exact q
  have hadj:Iw (kY g a b 1) a b:=by
   refine⟨(row g a).length,?_,?_⟩
   ·rw[rE han hbn];unfold zU;rw[if_neg hab,if_pos rfl];simp
   ·rw[rE han hbn];unfold zU;rw[if_neg hab,if_pos rfl,uM]
  have noself:∀u,u<g.2.length->¬Iw (kY g a b 1) u u:=fun u hu ⟨q,hq,he⟩=>by
   have:=((hVc.node u (by omega)).links q hq).2.1
   omega
  obtain⟨k,c,ch,cnt,ens,hrun,hI,hsh,hk,hchl,hel,hea,hend⟩:=HD (p:=pC z) hVc (MY hVc) hz KA (kind:=2) (by omega) (by omega) hcr (ws:=ws) (by omega) hwb
   (fun k c ch cnt=>aaY (kY g a b 1) a b cl (dC .u32 ((vC (bY (pC z) (kY g a b 1)) RC (gO (kY g a b 1)) cl:Nat):Int) 16777215) k c ch cnt) (.inl ⟨rfl,rfl,rfl,rfl⟩)
   (fun k c ch cnt t cnt' err hk hsh hI hne ht0 hsub hind _ _ hadd=>by
    rcases hI with⟨rfl,rfl,rfl,rfl⟩|⟨_,hno',_⟩
    rotate_left
    ·exfalso
     refine hne (Cw fun v=> ?_)
     cases hx:(vC (bY (pC z) (kY g a b 1)) RC (gO (kY g a b 1)) c).testBit v with
     |false=>simp
     |true=>
      obtain⟨q1,q2,_⟩:=(AO _ RC _ c v).1 hx
      exact absurd (wB.1 q2) (hno' v q1)
    have hin:∀v,t.testBit v=true->v<(kY g a b 1).2.length∧vD (kY g a b 1) c v:=fun v hv=>by
     obtain⟨q1,q2,_⟩:=(AO _ RC _ c v).1 (hsub v hv)
     exact⟨q1,wB.1 q2⟩
    obtain⟨v,hv⟩:=Fg ht0
    obtain⟨hvn,hvc⟩:=hin v hv.bit
    obtain⟨hvab,hcol⟩:=hcon v hvc (by omega)
    have hti:∀u,t.testBit u=true->u=v:=fun u hu=>by
     obtain⟨hun,huc⟩:=hin u hu
     obtain⟨huab,_⟩:=hcon u huc (by omega)
     have hna:=hind (by decide) v u hv.bit hu
     have hna':=hind (by decide) u v hu hv.bit
     rcases hvab with rfl|rfl<;>rcases huab with rfl|rfl
     ·rfl
     ·exact absurd hadj hna
     ·exact absurd hadj hna'
     ·rfl
    have ht:t=2^v:=Cw fun u=>by
     rw[Nat.testBit_two_pow]
     cases hx:t.testBit u with
     |true=>rw[hti u hx];simp
     |false=>
      by_cases e:v=u
      ·subst e;rw[hv.bit]at hx;cases hx
      ·rw[decide_eq_false e]
    have hstep:=fun u hu h=>On (p:=pC z) hVc hcr hin (hind (by decide)) (v:=u) hu h
    refine .inr ⟨rfl,fun u hu h=> ?_,?_,hcol,?_,v,hvab,by rw[ht];rfl⟩
    ·obtain⟨h1,h2⟩:=hstep u hu h
     obtain⟨q,hq,he⟩:=h
     obtain⟨y,hy,hye,hyadj⟩:=hVc.port hu hq
     rw[tF hye]at he
     obtain⟨q',hq',hye'⟩:=hVc.back hu hyadj
     have hyc:vD (kY g a b 1) (nG (bY (pC z) (kY g a b 1)) eY RC c t) y:=⟨q',hq',by rw[tF hye'];exact he.symm⟩
     obtain⟨h3,h4⟩:=hstep y hy hyc
     have hu':=(hcon u h1 (by omega)).1
     have hy':=(hcon y h3 (by omega)).1
     have huv:u≠v:=fun e=>by rw[e,hv.bit]at h2;cases h2
     have hyv:y≠v:=fun e=>by rw[e,hv.bit]at h4;cases h4
     have huy:u=y:=by omega
     subst huy
     exact noself u (by omega) hyadj
    ·have hI0:Qg (kY g a b 1) (gO (kY g a b 1)) 0 c []:=(Uv hcr).m
     exact(Xm hVc hI0 ht0 hsub (hind (by decide))).r
    ·have e:dC .u32 ((vC (bY (pC z) (kY g a b 1)) RC (gO (kY g a b 1)) c:Nat):Int) 16777215=((vC (bY (pC z) (kY g a b 1)) RC (gO (kY g a b 1)) c &&& 16777215:Nat):Int):=DY (b:=16777215) (by have:=hen24 c;omega) (by omega)
     rw[e,ht]at hadd
     exact Qp (Nat.lt_of_le_of_lt Nat.and_le_left (hen24 c)) (by omega) (hen24 _) hadd)
  have hnoc:∀v,v<(kY g a b 1).2.length->¬vD (kY g a b 1) c v:=fun v hv q=>by
   rcases hI with⟨rfl,rfl,rfl,_⟩|⟨rfl,h,_⟩
   ·rcases hend with e|e
    ·omega
    ·exact LW e v hv q
   ·exact h v hv q
  have hen0:vC (bY (pC z) (kY g a b 1)) RC (gO (kY g a b 1)) c=0:=Cw fun v=>by
   cases hx:(vC (bY (pC z) (kY g a b 1)) RC (gO (kY g a b 1)) c).testBit v with
   |false=>simp
   |true=>
    obtain⟨q1,q2,_⟩:=(AO _ RC _ c v).1 hx
    exact absurd (wB.1 q2) (hnoc v q1)
  have hch:∀t∈ch,t<4294967296:=fun t ht=>by
   rcases hI with⟨_,_,rfl,_⟩|⟨_,_,_,_,_,v,hv,rfl⟩
   ·cases ht
   ·rw[List.mem_singleton.1 ht];exact zJ (by omega)
  obtain⟨most,hmov,_⟩:=TU hch (by omega) (b:=900) (fun v _=>Nat.le_trans List.countP_le_length (by omega)) ens c cnt
  have e1:wI .i64 ((ens.length:Int) - 1)=(k:Int):=by rw[wr (by omega) (by omega)];omega
  have hrec:jI 1000 (pC z) (kY g a b 1) 2 cl ws=some ((((Rb ch:Nat):Int),most,cnt.2.1,cnt.2.2.2.1,true,c),0):=by
   unfold jI
   rw[aZ (show k_ 1000 (pC z) (kY g a b 1) 2 cl ws=_ from hrun)]
   dsimp only
   rw[if_neg (by decide),aZ (show iP 1000 (BK ch,ens,c,cnt)=_ from hmov),e1,cQ (by omega),hea,hen0]
   rfl
  rw[hpi,if_neg (by decide),aZ (show oI 1000 (g.1,g.2) (a:Int) (b:Int) 1=_ from QJ hV han hbn hab hpi (by omega)),if_neg (by simp)]
  refine(aZ (show lW 1000 (pC z) g (kY g a b 1) cl=_ from IT hV hVc hlc _ z hcl)).trans ?_
  rw[aZ (show kA 1000 wishes 20=_ from hws)]
  refine(aZ (show jI 1000 (pC z) (kY g a b 1) 2 cl ws=_ from hrec)).trans ?_
  unfold mL cH
  dsimp only
  have hra:(at' cl (a:Int)).length=1:=hcl.row a han
  have hrb:(at' cl (b:Int)).length=1:=hcl.row b hbn
  have hcnt:(cnt.2.1=1↔CK cl a=CK cl b)∧(cnt.2.1=0↔CK cl a≠CK cl b):=by
   rcases hI with⟨rfl,rfl,rfl,rfl⟩|⟨rfl,_,_,h3,h4,_⟩
   ·have hne:CK c a≠CK c b:=fun q=>hnoc a (by omega) (SX han hbn hab q).1
    exact⟨⟨fun q=>absurd (show(0:Int)=1 from q) (by decide),fun q=>absurd q hne⟩,⟨fun _=>hne,fun _=>rfl⟩⟩
   ·exact⟨⟨fun _=>h3,fun _=>h4⟩,⟨fun q=>by omega,fun q=>absurd h3 q⟩⟩
  have hor:Hv (Rb ch) (2^a ||| 2^b)=0:=Cw fun u=>by
   have p1:=zJ (show a<32 by omega)
   have p2:=zJ (show b<32 by omega)
   rw[IZ (Ue hch) (Mm p1 p2),Nat.testBit_or,Nat.testBit_two_pow,Nat.testBit_two_pow]
   rcases hI with⟨_,_,rfl,_⟩|⟨_,_,_,_,_,v,hv,rfl⟩
   ·simp[Rb]
   ·have:Rb [2^v]=2^v:=by simp[Rb]
    rw[this,Nat.testBit_two_pow]
    by_cases e:v=u
    ·subst e
     rcases hv with rfl|rfl<;>simp
    ·rw[decide_eq_false e];simp
  have p1:=zJ (show a<32 by omega)
  have p2:=zJ (show b<32 by omega)
  have c1:(decide (cnt.2.1=1)==decide (at' (at' cl (a:Int)) 0=at' (at' cl (b:Int)) 0))=true:=by
   rw[beq_iff_eq,decide_eq_decide];exact hcnt.1
  have c2:(decide (cnt.2.1=0)==decide (¬(at' (at' cl (a:Int)) 0=at' (at' cl (b:Int)) 0)))=true:=by
   rw[beq_iff_eq,decide_eq_decide];exact hcnt.2
  rw[cQ (by omega),cQ (by omega),cQ (by omega),cQ (by omega),aZ (show nN 1000=some true from rfl),if_pos rfl,if_pos rfl,if_pos rfl,if_pos rfl,if_pos c1,if_pos c2,aaN (by omega),aaN (by omega),cQ (by omega),cQ (by omega),OJ (by omega),OJ (by omega),XI p1 p2,Hh,hor]
  rfl
end Go.Proofs.YtpenklncfhiloaaGreatDoor
end
section
namespace Go.Sx
open Go.RowKit Go.ChangeShapes Go.WideShapes Go.ChangeAt Go.Proofs Go.Joins Go.Deep
section
variable {H:Type} {enc:TypeId×Value->H} {P:Program} {w:World} {base:Nat} {spare:Nat->Bool} {held:Bool}
theorem IB {a:Type} (l:List a) (d:a):l=(List.range l.length).map fun i=>l.getD i d:=by
 apply List.ext_getElem?
 intro i
 by_cases h:i<l.length
 ·simp[h]
 ·simp[h]
theorem Ud {r:Reach} {q:Nat} {t:TypeId} {a:Array Field} {v:Value} {d:DataW H} {p:List MemPlace} (m:P.underlying t=some (.struct a)) (b:oneCellFields P a=true) (u:P.cellsOf t=a.size)
  (B:Value.okWide P w r q t v) (h:DataW.Trod enc P w base spare held t v d p):
  ∃(V:Nat->Value) (Y:Nat->DataW H×List MemPlace) (n:Nat),v = .agg ((List.range a.size).map V).toArray∧∀(i:Nat) (f:Field),a[i]? = some f->DataW.trod enc P w base spare held n f.type [V i]=some (Y i):=by
 obtain⟨cs,rfl,j⟩:=okWide_struct m B
 obtain⟨fuel,x⟩:=h
 obtain⟨xs,n,_,_,_,l,y⟩:=DataW.trod_struct m x
 refine⟨fun i=>cs.toList.getD i undef,fun i=>xs.getD i (.nil,[]),n,?_,fun i f e=> ?_⟩
 ·congr 1
  apply Array.toList_inj.1
  show cs.toList=(List.range a.size).map fun i=>cs.toList.getD i undef
  have s:a.size=cs.toList.length:=by rw[<-u,<-j];rfl
  rw[s]
  exact IB cs.toList undef
 ·have A:i<a.size:=(Array.getElem?_eq_some_iff.1 e).1
  obtain⟨o,k⟩:=hone_of b i f e
  have g:=y i f e
  have c:(Value.cells (.agg cs)).toList=cs.toList:=rfl
  have z:i<cs.toList.length:=by rw[Array.length_toList];omega
  rw[o,k,c,take1_drop _ _ undef z]at g
  rw[g]
  have C:i<xs.length:=by omega
  simp[C]
theorem TL {k:IntKind} {e:TypeId} (a:P.underlying e=some (.int k)) {n:Nat} {v:Value} {x:DataW H×List MemPlace} (h:DataW.trod enc P w base spare held n e [v]=some x):∃y:Int,v = .int k y:=by
 obtain⟨y,b,_,_⟩:=DataW.trod_int a h
 exact⟨y,by simpa using b⟩
theorem Jk {e:TypeId} (a:P.underlying e=some .bool) {n:Nat} {v:Value} {x:DataW H×List MemPlace} (h:DataW.trod enc P w base spare held n e [v]=some x):∃y:Bool,v = .bool y:=by
 obtain⟨y,b,_⟩:=DataW.trod_bool a h
 exact⟨y,by simpa using b⟩
end
end Go.Sx
end
section
set_option maxRecDepth 100000
namespace Go.Sx
open Go.RowKit Go.ChangeShapes Go.WideShapes Go.ChangeAt Go.Proofs Go.Joins
theorem NN {P:Program} {W:World} {n:String} {b m t y:Nat} {k:IntKind} {xs:aQ} (h:laidMet P [(n,.agg (xs.map fun x=> .lit (.int k x)))] W) (F:P.globalNamed n=some b)
  (U:(P.globals[b]?).map (·.type)=some t) (V:P.underlying t=some (.array m y)) (u:P.underlying y=some (.int k)) (hc:P.cellsOf y=1) (r:P.cellsOf t=m) (Z:0<m):(Gb b (cellsOf (c_.int k) xs)).p W (fun _=>True):=by
 obtain⟨ps,⟨g,t2,cs,fuel,p,q,A,B,C,I,Y,J⟩,S,a⟩:=h
 rw[F]at A;cases A
 rw[U]at B;cases B
 refine⟨trivial,?_⟩
 obtain⟨ys,ml,_,f,R,v,O⟩:=DataW.trod_array V I
 simp only[Prod.mk.injEq,DataW.agg.injEq]at f
 have d:xs.length=m:=by rw[<-v];simpa using congrArg List.length f.1
 have N:cs.size=m:=by rw[<-r,<-R];simp
 have s:cs.toList=cellsOf (c_.int k) xs:=by
  refine List.ext_getElem? fun i=> ?_
  by_cases Q:i<m
  ·have j:=O i Q
   rw[hc,Nat.mul_one]at j
   have G:xs[i]? = some (xs[i]'(by omega)):=List.getElem?_eq_getElem _
   have D:=tU (c_.int k) xs i _ G 0 _ rfl
   rw[show i*(c_.int k).sz+0=i from Nat.mul_one i]at D
   rw[D]
   have H:ys[i]? = some (ys[i]'(by omega)):=List.getElem?_eq_getElem _
   rw[H]at j
   obtain⟨z,X,w,_⟩:=DataW.trod_int u j
   have o:cs.toList[i]? = some (.int k z):=by
    have:=congrArg (·[0]?) X
    simpa [List.getElem?_take,List.getElem?_drop]using this
   rw[o]
   have l:=congrArg (·[i]?) f.1
   simp only[List.getElem?_map,G,H,Option.map_some,Option.some.injEq]at l
   rw[w]at l
   have K:xs[i]=z:=by simpa using l
   rw[K]
  ·rw[List.getElem?_eq_none (by simp;omega),List.getElem?_eq_none (by rw[dG,d];show m*1<=i;omega)]
 have e:MemPlace.cell b 0∈ps:=by
  rw[J]
  refine List.mem_append_left _ (List.mem_append_left _ ?_)
  exact List.mem_map.2 ⟨0,by simp;omega,rfl⟩
 obtain⟨⟨c,T,E⟩,_⟩:=a b 0 e
 refine⟨T,?_⟩
 have L:c=cs:=by
  have M:(W.var? P n)=some c:=by unfold World.var?;rw[F];simp[E]
  rw[M]at C;exact Option.some.inj C
 rw[E,L,<-s]
theorem L_ {H:Type} {enc:TypeId×Value->H} {os:Os} (z:List (String×DataW Unit)) (K:(z.all fun x=>x.2.handleName?.isNone)=true) (g:os.Started) {f:FuncId} {fn:Func} {s:ChangeSpec} {r:Bool} (I:Tryz.prog.funcs[f]? = some fn) (l:Tryz.prog.inits.idxOf? f=none)
  (m:(fn.params.toList.all fun t=>Tryz.prog.readableRec t&&decide (t<Tryz.prog.types.size))=true) (u:fn.resultTypes = #[4]) (c:s.vars=[])
  (n:∀a:List (DataW H),a.length=fn.params.toList.length->s.fn H a={results:=[.lit (.bool true)],args:=a})
  (k:∃(w:World) (b:Tape) (i:Input),w.os=os∧(w.forCall b i).Shaped Tryz.prog∧i.vars=[]∧Input.okWide Tryz.prog (w.forCall b i) .any w.heap.size f i∧
   ((s.pre enc Tryz.prog fn [] false (w.forCall b i).memory i.args∧laidMetH Tryz.prog z (w.forCall b i).memory)∧sizedMet enc Tryz.prog fn (OpenSpec.ofChange s) false (w.forCall b i).memory i.args)∧({}:Assume).holds Tryz.prog (lone (Frame.enter Tryz.prog f i.args .normal) [] (w.forCall b i)))
  (A:∀(W:World) (base:Nat) (args:Array Value) (a:List (DataW H)) (p:List MemPlace),laidMetH Tryz.prog z W->(∀(j:Nat) t v,fn.params[j]? = some t->args[j]? = some v->Value.okWide Tryz.prog W .any base t v)->
   DataW.TrodAll enc Tryz.prog W 0 (fun _=>true) true fn.params.toList args.toList a p->Calls Tryz.prog f args W fun e M=>e = .returned (.bool true)∧JJ W M):
  ReturnsInHanded {} Go.Proofs.YtpenklncfhiloaaGreatDoor.Tryz.pinned.checked os f .any (fun w args=>(s.pre enc Tryz.prog fn [] false w args∧laidMetH Tryz.prog z w)∧sizedMet enc Tryz.prog fn (OpenSpec.ofChange s) false w args) (s.post enc Tryz.prog fn false r false false):=by
 refine returnsInHanded_of_change_and (C:=Go.Proofs.YtpenklncfhiloaaGreatDoor.Tryz.pinned.checked) (X:=fun w _=>laidMetH Tryz.prog z w) (fun _ _ _ R h=>by rw[MakeChecks.laidMetH_plain _ _ _ K]at h ⊢;exact h.of_heap R) ac_ g l I k ?_
 intro W base args a gs D y F _ _ Q _
 have J:=F.lt
 have G:=F
 obtain⟨p,q,E,N,rfl,_,_⟩:=F
 rw[c]at N
 obtain⟨rfl,rfl⟩:=trodVars_none N
 refine(A W base args a p Q y E).mono ?_
 rintro e M ⟨rfl,O⟩
 refine⟨_,rfl,?_⟩
 have o:a.length=fn.params.toList.length:=by
  have:∀(B:List TypeId) (vs:dO) (a:List (DataW H)) (p:List MemPlace),DataW.TrodAll enc Tryz.prog W 0 (fun _=>true) true B vs a p->a.length=B.length:=by
   intro B
   induction B with
   |nil=>intro vs a p h;cases vs<;>cases a<;>first|rfl|exact h.elim
   | cons t B ih =>
    intro vs a p h
    cases vs with
    |nil=>exact h.elim
    |cons v vs=>
     cases a with
     |nil=>exact h.elim
     |cons d a=>obtain⟨_,_,_,P,_⟩:=h;simp[ih vs a _ P]
  exact this _ _ _ _ E
 have L:s.fn H (a++[])={results:=[.lit (.bool true)],args:=a}:=by rw[List.append_nil];exact n a o
 refine⟨a,[],p++[],[],p,[],G,?_,?_,?_,O.frame _,fun h=>by cases h⟩
 ·rw[L,u]
  exact trodAll_mk1 (shut_bool Tryz.underlying4 true)
 ·rw[L]
  exact Df aar O _ _ _ _ m E (fun x S=>J x (List.mem_append_left _ S))
 ·rw[L,c];exact rfl
theorem QU {P:Program} {n:String} {k:IntKind} {xs:aQ} {W:World} (h:laidMetH P [(n,.agg (xs.map fun x=> .lit (.int k x)))] W):laidMet P [(n,.agg (xs.map fun x=> .lit (.int k x)))] W:=by
 rw[MakeChecks.laidMetH_plain _ _ _ (by rfl)]at h;exact h
end Go.Sx
end
