/- Models and proofs. Conditions: none. -/
import Derived.Test.YtpenklncfhiloaaGreatDoorZCLi6
import Derived.Test.YtpenklncfhiloaaGreatDoorZCLi2
import Derived.Test.YtpenklncfhiloaaGreatDoorZCLi5
set_option linter.unusedVariables false
set_option linter.unusedSimpArgs false
set_option maxHeartbeats 4000000
set_option maxRecDepth 20000
section
namespace Go.Proofs.YtpenklncfhiloaaGreatDoor
open Go.Sx
section
def mF  (a:aQ):Option aQ:=
 some (a)
def jE (U:Nat) (p0:Fz) (p1:a_) (p2:Int) (p3:Int) (a:Int×aQ) (b:(Int×aQ)->Option aQ):Option aQ:=
 if a.1<(List.length ((at' p0.1.2.2 p3).2.2.2):Int)then(ck (0<=a.1∧a.1<(List.length ((at' p0.1.2.2 p3).2.2.2):Int)) (Option.bind (fG U ((((p0.2.1.1.1,p0.2.1.1.2.1,p0.2.1.1.2.2)),((p0.2.1.2.1.1,p0.2.1.2.1.2)),p0.2.1.2.2.1,p0.2.1.2.2.2)) p1 p2 ((at' ((at' p0.1.2.2 p3).2.2.2) a.1).2.2)) fun c=>(ck (0<=((at' ((at' p0.1.2.2 p3).2.2.2) a.1).1)∧((at' ((at' p0.1.2.2 p3).2.2.2) a.1).1)<(List.length p0.1.2.1:Int)) (ck (0<=p2∧p2<(List.length p0.2.2:Int)) (ck (0<=((at' ((at' p0.1.2.2 p3).2.2.2) a.1).1)∧((at' ((at' p0.1.2.2 p3).2.2.2) a.1).1)<(List.length (at' p0.2.2 p2):Int)) (Option.bind (qW U ((at' p0.1.2.1 ((at' ((at' p0.1.2.2 p3).2.2.2) a.1).1)).2.1) ((((at' (at' p0.2.2 p2) ((at' ((at' p0.1.2.2 p3).2.2.2) a.1).1)).1),((at' (at' p0.2.2 p2) ((at' ((at' p0.1.2.2 p3).2.2.2) a.1).1)).2))) c) fun d=>(ck (0<=((at' ((at' p0.1.2.2 p3).2.2.2) a.1).1)∧((at' ((at' p0.1.2.2 p3).2.2.2) a.1).1)<(List.length a.2:Int)) (b ((wI .i64 (a.1+(1:Int))),(List.set a.2 (Int.toNat ((at' ((at' p0.1.2.2 p3).2.2.2) a.1).1)) d))))))))))else(mF  (a.2))
def j_ (U:Nat) (p0:Fz) (p1:a_) (p2:Int) (p3:Int):Option aQ:=
 ck (0<=p2∧p2<(List.length p1:Int)) (ck ((List.length ([]:aQ):Int)+(List.length (at' p1 p2):Int)<=1099511627) (ck (0<=p3∧p3<(List.length p0.1.2.2:Int)) (bM (jE U p0 p1 p2 p3) U ((0:Int),(([]:aQ)++(at' p1 p2))))))
theorem Vz:aO Tryz.prog 128:=Tryz.call128
theorem BV (U:Nat) {p0:Fz} {p1:a_} {p2:Int} {p3:Int} (bx0:Nat)  (v1:Value)  (v2:Value)  (bx3:Nat)  (v4:Value)  (v5:Value)  (v6:Value)  (v7:Value)  (z8:jT)  (v9:Value)  (z10:oV)  (v11:Value)  (z12:jT)  (v13:Value)  (z14:oV) (r:aQ) (h:j_ U p0 p1 p2 p3=some r):
  aV Tryz.prog 128 #[vP bx0,v13,vI (p2),vI (p3)] [bS bx0 [vS (p0.1.1),v1,v2,vP bx3,v11] 134,Sl aJ v1 p0.1.2.1,Sl aF v2 p0.1.2.2,bS bx3 [vS (p0.2.1.1.1),v4,v5,v6,v7,vI (p0.2.1.2.2.1),v9] 176,Sl aJ v4 p0.2.1.1.2.1,Sl aF v5 p0.2.1.1.2.2,Sl bL v6 p0.2.1.2.1.1,S2 aW v7 z8 p0.2.1.2.1.2,S2 bL v9 z10 p0.2.1.2.2.2,S2 aW v11 z12 p0.2.2,S2 bL v13 z14 p1] (fun x:Value=>x) (fun x l=>Ar cE x r::l) (fun _ l=>l):=by
 refine aV.of Tryz.func128 rfl Tryz.ntmps128 rfl fun c=>?_
 refine sqR<|qkAsg rfl<|dtN<|sqR<|qkMove rfl<|qkMove rfl<|ckE h fun j1 h=>aB (cG rfl rfl (aC.fact 10 rfl) rfl rfl j1) rfl<|aB (cI rfl (aC.fact 10 rfl) rfl rfl j1) rfl<|dV (dA cE)<|ckE h fun j3 h=>aE (fU 0 cW rfl rfl rfl (aC.el (aC.fact 10 rfl) j1.1 j1.2) rfl rfl rfl rfl j3 rfl) rfl fun u2=>qkAsg rfl<|dtN<|aH<|midU (fun a5=>mF  a5=some r) (fun a5 b6=>[(9,u2)]) (fun a5 b6=>[Ar cE u2 a5]) ?_ ?_
 ·refine sqR<|qkMove rfl<|aB (bU rfl) rfl<|qkFld rfl<|qkFld rfl<|aB (cZ rfl (aC.fact 0 rfl) rfl rfl rfl) rfl<|qkMove rfl<|ckE h fun j7 h=>aB (bG rfl rfl (aC.fact 2 rfl) rfl rfl j7) rfl<|aB (jJ rfl rfl rfl rfl rfl) rfl<|aB (mD rfl (aC.fact 2 rfl) rfl rfl rfl xR j7) rfl<|aB (fM rfl (tT (aC.fact 2 rfl) fH j7.1 j7.2) rfl) rfl<|qkMove rfl<|dtN<|aR<|loopL (jE U p0 p1 p2 p3) (fun a11 b12=>[(0,vP bx0),(1,v13),(2,vI (p2)),(9,u2),(26,(at' p0.1.2.2 p3).2.2.1),(27,vI (List.length ((at' p0.1.2.2 p3).2.2.2):Int)),(28,vI (a11.1))]) (fun a11 b12=>[Ar cE u2 a11.2]) ((0:Int),(([]:aQ)++(at' p1 p2))) () h SF (aS.refl _) ?_
  intro k13 a11 b12 h
  refine sqR<|qkLss rfl<|dtN<|aH ?_
  refine eZ h rfl (fun h=>?_) fun h=>?_
  ·refine cL<|aH<|aR<|sqR<|ckE h fun j15 h=>aB (bG rfl rfl (tT (aC.fact 2 rfl) fH j7.1 j7.2) rfl rfl j15) rfl<|aB (Ny (cs:=[vI ((at' ((at' p0.1.2.2 p3).2.2.2) a11.1).1),(at' ((at' p0.1.2.2 p3).2.2.2) a11.1).2.1]) rfl (tT (aC.fact 2 rfl) fH j7.1 j7.2) Iy rfl rfl rfl rfl j15) rfl<|aE (aG.alloc (cs:=[vI (0:Int),eG]) rfl rfl) rfl fun b16=>bJ (Know.one ((tT (tT (aC.fact 2 rfl) fH j7.1 j7.2) Be j15.1 j15.2))) fun ho17=>aY 0 (vs:=[vI ((at' ((at' p0.1.2.2 p3).2.2.2) a11.1).1),(at' ((at' p0.1.2.2 p3).2.2.2) a11.1).2.1]) rfl rfl (cB rfl (cB ho17 rfl)) rfl rfl rfl<|dtN<|aH ?_
   refine JR.start [0,1,3,7,0,0,0,64,255,511] 8 mixedOrders (by decide +kernel) ?_
   refine JR.open (by exact rfl) ?_
   refine jkMove rfl<|jqN rfl (bU rfl)<|jkFld rfl<|bD rfl .nil (lA 0 rfl) (cZ rfl (aC.fact 0 rfl) rfl rfl rfl) aK.z<|jkMove rfl<|jkMove rfl<|jkFld rfl<|jkLd 0 rfl<|bF 8 rfl rfl<|bnE h fun r18 w19 h=>aE (aG.callQ OO (vJ U bx3 v4 v5 v6 v7 z8 v9 z10 v13 z14 ((at' ((at' p0.1.2.2 p3).2.2.2) a11.1).2.1) r18 w19) rfl (aA.cons (aC.fact 3 rfl) (aA.cons (aC.fact 4 rfl) (aA.cons (aC.fact 5 rfl) (aA.cons (aC.fact 6 rfl) (aA.cons (aC.fact 7 rfl) (aA.cons (aC.fact 8 rfl) (aA.cons (aC.fact 10 rfl) (aA.cons (tT (tT (aC.fact 2 rfl) fH j7.1 j7.2) Be j15.1 j15.2) .nil))))))))) rfl fun x20=>qkAsg rfl<|dtN ?_
   refine JR.start [0,0,2,0,8,24,56,120,0,256,1016,2040,4088,0,8192,24576,57344,0,253952,516096,0,1048576,4186112,8380416,0,33554424,67108863,134217727] 26 mixedOrders (by decide +kernel) ?_
   refine JR.open (by exact rfl) ?_
   refine jkMove rfl<|jkFld rfl<|jkLd 0 rfl<|jkMove rfl<|jqN rfl (bU rfl)<|jkFld rfl<|jkFld rfl<|bD rfl .nil (lA 0 rfl) (cZ rfl (aC.fact 0 rfl) rfl rfl rfl) aK.z<|jkFld rfl<|jkLd 0 rfl<|ckE h fun j21 h=>bD rfl .nil (lA 1 rfl) (bG rfl rfl (aC.fact 0 rfl) rfl rfl j21) aK.z<|jqN rfl (jJ rfl rfl rfl rfl rfl)<|bD rfl .nil (lA 1 rfl) (mD rfl (aC.fact 0 rfl) rfl rfl rfl mC j21) aK.z<|jkMove rfl<|jqN rfl (bU rfl)<|jkFld rfl<|bD rfl .nil (lA 0 rfl) (cZ rfl (aC.fact 0 rfl) rfl rfl rfl) aK.z<|jkMove rfl<|ckE h fun j22 h=>bD rfl .nil (lA 9 rfl) (cG rfl rfl (aC.fact 0 rfl) rfl rfl j22) aK.z<|bD rfl .nil (lA 9 rfl) (cI rfl (aC.fact 0 rfl) rfl rfl j22) aK.z<|jkFld rfl<|jkLd 0 rfl<|ckE h fun j23 h=>bD rfl .nil (lA 9 rfl) (bG rfl rfl (aC.el (aC.fact 0 rfl) j22.1 j22.2) rfl rfl j23) aK.z<|bD rfl .nil (lA 9 rfl) (gV (cs:=[vI ((at' (at' p0.2.2 p2) ((at' ((at' p0.1.2.2 p3).2.2.2) a11.1).1)).1),vI ((at' (at' p0.2.2 p2) ((at' ((at' p0.1.2.2 p3).2.2.2) a11.1).1)).2)]) rfl (aC.el (aC.fact 0 rfl) j22.1 j22.2) aU rfl rfl rfl rfl j23) aK.z<|jkMove rfl<|bnE h fun r24 w25 h=>JR.loud rfl rfl rfl (aG.callQ SE (BX U  r24 w25) rfl .nil) rfl (fun x26=>(jM [([0],[])] rfl)) fun x26=>bF 26 rfl rfl<|ckE h fun j27 h=>aB (bG rfl rfl (aT (aC.res 1 rfl) cW) rfl rfl j27) rfl<|Lc 1 r24 j27 rfl rfl rfl rfl rfl rfl rfl<|eI<|inT<|aM<|qkAdd rfl<|qkMove rfl<|dtN ?_
   exact kN ((wI .i64 (a11.1+(1:Int))),(List.set a11.2 (Int.toNat ((at' ((at' p0.1.2.2 p3).2.2.2) a11.1).1)) r24)) () h SF (aS.ix [1] rfl rfl) (aA.refl _ _)
  refine gH ?_
  exact iQ (a11.2) () h SF rfl
 intro a5 b6 h
 unfold mF at h
 refine sqR<|qkMove rfl<|qkAsg rfl<|dtN<|aN ?_
 cases h
 exact gE (u2) rfl rfl (RV.tmp rfl) (aS.refl _) aA.nil
end
section
def mH  (a:a_):Option a_:=
 some (a)
def jG (b:yY) (a:(Int×a_)->Option a_) (c:a_):Option a_:=
 a ((wI .i64 (b.1+(1:Int))),c)
def gK (U:Nat) (p0:Fz) (p1:a_) (p2:Int) (a:yY) (b:(Int×a_)->Option a_):Option a_:=
 if a.1<(List.length p1:Int)then(ck (0<=a.1) (if(dC .u32 (oU .u32 p2 a.1) (1:Int))=(1:Int)then(Option.bind (eC U ((((p0.1.1,p0.1.2.1,p0.1.2.2)),((((p0.2.1.1.1,p0.2.1.1.2.1,p0.2.1.1.2.2)),((p0.2.1.2.1.1,p0.2.1.2.1.2)),p0.2.1.2.2.1,p0.2.1.2.2.2)),p0.2.2)) p1 a.1) fun c=>(Option.bind (j_ U ((((p0.1.1,p0.1.2.1,p0.1.2.2)),((((p0.2.1.1.1,p0.2.1.1.2.1,p0.2.1.1.2.2)),((p0.2.1.2.1.1,p0.2.1.2.1.2)),p0.2.1.2.2.1,p0.2.1.2.2.2)),p0.2.2)) p1 a.1 c) fun d=>(ck (0<=a.1∧a.1<(List.length a.2:Int)) (jG a b (List.set a.2 (Int.toNat a.1) d)))))else(jG a b (a.2))))else(mH  (a.2))
def iB (U:Nat) (p0:Fz) (p1:a_) (p2:Int):Option a_:=
 Option.bind (sH U p1) fun a=>(bM (gK U p0 p1 p2) U ((0:Int),a))
theorem Vw:aO Tryz.prog 103:=Tryz.call103
theorem BW (U:Nat) {p0:Fz} {p1:a_} {p2:Int} (bx0:Nat)  (v1:Value)  (v2:Value)  (bx3:Nat)  (v4:Value)  (v5:Value)  (v6:Value)  (v7:Value)  (z8:jT)  (v9:Value)  (z10:oV)  (v11:Value)  (z12:jT)  (v13:Value)  (z14:oV) (r:a_) (h:iB U p0 p1 p2=some r):
  aV Tryz.prog 103 #[vP bx0,v13,vU (p2)] [bS bx0 [vS (p0.1.1),v1,v2,vP bx3,v11] 134,Sl aJ v1 p0.1.2.1,Sl aF v2 p0.1.2.2,bS bx3 [vS (p0.2.1.1.1),v4,v5,v6,v7,vI (p0.2.1.2.2.1),v9] 176,Sl aJ v4 p0.2.1.1.2.1,Sl aF v5 p0.2.1.1.2.2,Sl bL v6 p0.2.1.2.1.1,S2 aW v7 z8 p0.2.1.2.1.2,S2 bL v9 z10 p0.2.1.2.2.2,S2 aW v11 z12 p0.2.2,S2 bL v13 z14 p1] (fun x:Cd=>x.1) (fun x l=>Ar c_.raw x.1 x.2::gU cE x.2 r::l) (fun _ l=>l):=by
 refine aV.of Tryz.func103 rfl Tryz.ntmps103 rfl fun c=>?_
 refine sqR<|qkAsg rfl<|dtN<|sqR<|qkMove rfl<|bnE h fun r1 w2 h=>aE (aG.callQ OM (Dd U v13 z14 r1 w2) rfl (iJ [10] rfl)) rfl fun x3=>qkAsg rfl<|dtN<|aH<|midL (B:=dO) (fun a6=>mH  a6=some r) (fun a6 b7=>[(7,x3.1)]) (fun a6 b7=>[Ar c_.raw x3.1 b7,gU cE b7 a6]) ?_ ?_
 ·refine sqR<|qkMove rfl<|aB (iY rfl (aC.fact 10 rfl) rfl) rfl<|qkMove rfl<|dtN<|aR<|loopL (B:=dO) (gK U p0 p1 p2) (fun a12 b13=>[(0,vP bx0),(1,v13),(2,vU (p2)),(7,x3.1),(12,vI (List.length p1:Int)),(13,vI (a12.1))]) (fun a12 b13=>[Ar c_.raw x3.1 b13,gU cE b13 a12.2]) ((0:Int),r1) (x3.2) h SF (aS.refl _) ?_
  intro k14 a12 b13 h
  refine sqR<|qkLss rfl<|dtN<|aH ?_
  refine eZ h rfl (fun h=>?_) fun h=>?_
  ·refine cL<|aH<|midL (B:=dO) (fun a18=>jG a12 (bM (gK U p0 p1 p2) k14) a18=some r) (fun a18 b19=>[(0,vP bx0),(1,v13),(2,vU (p2)),(7,x3.1),(12,vI (List.length p1:Int)),(13,vI (a12.1))]) (fun a18 b19=>[Ar c_.raw x3.1 b19,gU cE b19 a18]) ?_ ?_
   ·refine aR<|sqR<|qkMove rfl<|qkAsg rfl<|dtN<|sqR<|qkMove rfl<|qkMove rfl<|ckE h fun j20 h=>aB (He rfl rfl j20) rfl<|qkAnd rfl<|qkEql rfl<|dtN ?_
    refine eZ h rfl (fun h=>?_) fun h=>?_
    ·refine aM<|qkMove rfl<|qkMove rfl<|qkMove rfl<|qkMove rfl<|qkMove rfl<|qkMove rfl<|qkMove rfl<|qkMove rfl<|bnE h fun r22 w23 h=>aE (aG.callQ SK (xB U bx0 v1 v2 bx3 v4 v5 v6 v7 z8 v9 z10 v11 z12 v13 z14 r22 w23) rfl (iJ [0,1,2,3,4,5,6,7,8,9,10] rfl)) rfl fun x24=>bnE h fun r25 w26 h=>aE (aG.callQ Vz (BV U bx0 v1 v2 bx3 v4 v5 v6 v7 z8 v9 z10 v11 z12 v13 z14 r25 w26) rfl (iJ [0,1,2,3,4,5,6,7,8,9,10] rfl)) rfl fun x27=>ckE h fun j28 h=>aB (cG rfl rfl (aP (i:=1) (j:=2) rfl rfl cW) rfl rfl j28) rfl<|bJ (Know.one ((aT (aC.res 0 rfl) cW))) fun ho29=>dV (qR (k:=a12.1) 2 0 rfl rfl rfl j28) ?_
     refine iK 0 1 ⟨j28.1,by first|exact j28.2|simpa using j28.2⟩ rfl rfl rfl rfl rfl (by simp) ho29 rfl ?_
     refine eI<|inT ?_
     exact iQ (List.set a12.2 (Int.toNat a12.1) r25) (List.set b13 (Int.toNat a12.1) x27) h SF rfl
    refine eJ<|inT ?_
    exact iQ (a12.2) (b13) h SF rfl
   intro a18 b19 h
   unfold jG at h
   refine aM<|qkAdd rfl<|qkMove rfl<|dtN ?_
   exact Ah ((wI .i64 (a12.1+(1:Int))),a18) (b19) h SF rfl
  refine gH ?_
  exact iQ (a12.2) (b13) h SF rfl
 intro a6 b7 h
 unfold mH at h
 refine sqR<|qkMove rfl<|qkAsg rfl<|dtN<|aN ?_
 cases h
 exact gE (x3.1,b7) rfl rfl (RV.tmp rfl) (aS.refl _) aA.nil
end
section
def wR  (a:Int):Option (Int):=
 some (a)
def sP (c:eS) (b:eR->Option (Int)) (a:Int):Option (Int):=
 b (a,(wI .i64 (c.2+(1:Int))))
def pZ (p0:Int) (d:Int->Option Bool) (a:eS) (b:eR->Option (Int)):Option (Int):=
 if a.2<p0 then(Option.bind (d a.2) fun c=>(if c=true then(ck (0<=a.2) (sP a b (EH .u32 a.1 (xF .u32 (1:Int) a.2))))else(sP a b (a.1))))else(wR  (a.1))
def xX (U:Nat) (p0:Int) (a:Int->Option Bool):Option (Int):=
 bM (pZ p0 a) U ((0:Int),(0:Int))
theorem Yd:aO Tryz.prog 67:=Tryz.call67
theorem KM (U:Nat) {p0:Int} {g1:Int->Option Bool} (f1:FuncId) (cs1:dO) (Lf:List aX) (hb_g1:aO Tryz.prog f1) (hm_g1:∀(y0:Int) (r:Bool),g1 y0=some r->aV Tryz.prog f1 ([vI (y0)]++cs1).toArray Lf (fun _:Unit=>vB (r)) (fun _ l=>l) (fun _ l=>l)) (r:Int) (h:xX U p0 g1=some r):
  aV Tryz.prog 67 #[vI (p0),Value.func (.func f1) #[] (cs1).toArray] ([]++Lf) (fun x:Unit=>vU (r)) (fun x l=>l) (fun _ l=>l):=by
 refine aV.of Tryz.func67 rfl Tryz.ntmps67 rfl fun c=>?_
 unfold xX at h
 refine sqR<|qkAsg rfl<|dtN<|sqR<|qkAsg rfl<|dtN<|aH<|xC (B:=Unit) (fun a2=>wR  a2=some r) (fun a2 b3=>[(5,vU (a2))]) (fun a2 b3=>[]) (fun a2 b3=>([]++Lf)) ?_ ?_
 ·refine sqR<|qkMove rfl<|qkMove rfl<|dtN<|aR<|Ch (B:=Unit) (pZ p0 g1) (fun a7 b8=>[(1,Value.func (.func f1) #[] (cs1).toArray),(5,vU (a7.1)),(7,vI (p0)),(8,vI (a7.2))]) (fun a7 b8=>[]) (fun a7 b8=>([]++Lf)) ((0:Int),(0:Int)) () h SF (aS.refl _) (aA.refl _ _) ?_
  intro k9 a7 b8 h
  refine sqR<|qkLss rfl<|dtN<|aH ?_
  refine eZ h rfl (fun h=>?_) fun h=>?_
  ·refine cL<|aH<|xC (B:=Unit) (fun a12=>sP a7 (bM (pZ p0 g1) k9) a12=some r) (fun a12 b13=>[(1,Value.func (.func f1) #[] (cs1).toArray),(5,vU (a12)),(7,vI (p0)),(8,vI (a7.2))]) (fun a12 b13=>[]) (fun a12 b13=>([]++Lf)) ?_ ?_
   ·refine aR<|sqR<|qkMove rfl<|qkAsg rfl<|dtN<|sqR<|qkMove rfl<|qkMove rfl<|bnE h fun r14 w15 h=>aE (oY (vs:=[vI (a7.2)]) (cs:=cs1) hb_g1 rfl (hm_g1 a7.2 r14 w15) rfl (aA.tail _) (fun _ _=>rfl)) rfl fun x16=>dtN ?_
    refine zQ h rfl (fun _ h=>?_) fun _ h=>?_
    ·refine aM<|qkMove rfl<|qkMove rfl<|ckE h fun j18 h=>aB (FL rfl rfl j18) rfl<|aB (Nz rfl rfl) rfl<|qkAsg rfl<|eI<|inT ?_
     exact iQ (EH .u32 a7.1 (xF .u32 (1:Int) a7.2)) () h SF rfl
    refine eJ<|inT ?_
    exact iQ (a7.1) () h SF rfl
   intro a12 b13 h
   unfold sP at h
   refine aM<|qkAdd rfl<|qkMove rfl<|dtN ?_
   exact Ah (a12,(wI .i64 (a7.2+(1:Int)))) () h SF rfl
  refine gH ?_
  exact iQ (a7.1) () h SF rfl
 intro a2 b3 h
 unfold wR at h
 refine sqR<|qkMove rfl<|qkAsg rfl<|dtN<|aN ?_
 cases h
 exact lD rfl
end
section
def jB (U:Nat) (p0:Int) (p1:Fz) (p2:a_):Option (Bool):=
 Option.bind (eC U ((((p1.1.1,p1.1.2.1,p1.1.2.2)),((((p1.2.1.1.1,p1.2.1.1.2.1,p1.2.1.1.2.2)),((p1.2.1.2.1.1,p1.2.1.2.1.2)),p1.2.1.2.2.1,p1.2.1.2.2.2)),p1.2.2)) p2 p0) fun a=>(some (decide ((0:Int)<=a)))
theorem Ye:aO Tryz.prog 68:=Tryz.call68
theorem y_ (U:Nat) {p0:Int} {p1:Fz} {p2:a_} (i:Nat)  (b:Nat)  (n:Value)  (o:Value)  (d:Nat)  (p:Value)  (q:Value)  (s:Value)  (t:Value)  (u:jT)  (e:Value)  (j:oV)  (f:Value)  (k:jT)  (a:Nat)  (g:Value)  (m:oV) (r:Bool) (h:jB U p0 p1 p2=some r):
  aV Tryz.prog 68 #[vI (p0),vP i,vP a] [bS i [vP b] 95,bS b [vS (p1.1.1),n,o,vP d,f] 134,Sl aJ n p1.1.2.1,Sl aF o p1.1.2.2,bS d [vS (p1.2.1.1.1),p,q,s,t,vI (p1.2.1.2.2.1),e] 176,Sl aJ p p1.2.1.1.2.1,Sl aF q p1.2.1.1.2.2,Sl bL s p1.2.1.2.1.1,S2 aW t u p1.2.1.2.1.2,S2 bL e j p1.2.1.2.2.2,S2 aW f k p1.2.2,bS a [g] 30,S2 bL g m p2] (fun x:Unit=>vB (r)) (fun x l=>l) (fun _ l=>l):=by
 refine aV.of Tryz.func68 rfl Tryz.ntmps68 rfl fun c=>?_
 refine sqR<|qkAsg rfl<|dtN<|sqR<|aB (cZ rfl (aC.fact 0 rfl) rfl rfl rfl) rfl<|aB (cZ rfl (aC.fact 11 rfl) rfl rfl rfl) rfl<|qkMove rfl<|bnE h fun v w h=>aE (aG.callQ SK (xB U b n o d p q s t u e j f k g m v w) rfl (iJ [1,2,3,4,5,6,7,8,9,10,12] rfl)) rfl fun y=>aB (Bf rfl rfl) rfl<|qkAsg rfl<|dtN<|aN ?_
 cases h
 exact lD rfl
end
section
def cU (U:Nat) (p0:Fz) (p1:a_):Option (Int):=
 Option.bind (xX U (List.length p0.2.2:Int) (fun b=>jB U b ((((p0.1.1,p0.1.2.1,p0.1.2.2)),((((p0.2.1.1.1,p0.2.1.1.2.1,p0.2.1.1.2.2)),((p0.2.1.2.1.1,p0.2.1.2.1.2)),p0.2.1.2.2.1,p0.2.1.2.2.2)),p0.2.2)) p1)) fun a=>(some (a))
theorem NH:aO Tryz.prog 46:=Tryz.call46
theorem oO (U:Nat) {p0:Fz} {p1:a_} (a:Nat)  (j:Value)  (k:Value)  (d:Nat)  (m:Value)  (n:Value)  (o:Value)  (p:Value)  (v:jT)  (q:Value)  (f:oV)  (e:Value)  (g:jT)  (b:Value)  (i:oV) (r:Int) (h:cU U p0 p1=some r):
  aV Tryz.prog 46 #[vP a,b] [bS a [vS (p0.1.1),j,k,vP d,e] 134,Sl aJ j p0.1.2.1,Sl aF k p0.1.2.2,bS d [vS (p0.2.1.1.1),m,n,o,p,vI (p0.2.1.2.2.1),q] 176,Sl aJ m p0.2.1.1.2.1,Sl aF n p0.2.1.1.2.2,Sl bL o p0.2.1.2.1.1,S2 aW p v p0.2.1.2.1.2,S2 bL q f p0.2.1.2.2.2,S2 aW e g p0.2.2,S2 bL b i p1] (fun x:Unit=>vU (r)) (fun x l=>l) (fun _ l=>l):=by
 refine aV.of Tryz.func46 rfl Tryz.ntmps46 rfl fun c=>?_
 refine sqR<|aE (aG.box (cs:=[vP a]) rfl rfl) rfl fun s=>bJ (Know.one (aC.sl (aC.fact 10 rfl))) fun u=>?_
 refine aE (aG.box (cs:=[b]) rfl (by rw[cY u])) rfl fun t=>?_
 refine qkAsg rfl<|dtN<|sqR<|qkLd 1 rfl<|aB (bU rfl) rfl<|qkFld rfl<|aB (cZ rfl (aC.fact 0 rfl) rfl rfl rfl) rfl<|aB (iY rfl (aC.fact 9 rfl) rfl) rfl<|aB (vR (cs:=[.tmp 2,.tmp 3]) (vs:=[vP s,vP t]) rfl) rfl<|bnE h fun w y h=>aE (aG.callQ Yd (KM U 68 [vP s,vP t] [bS s [vP a] 95,bS a [vS (p0.1.1),j,k,vP d,e] 134,Sl aJ j p0.1.2.1,Sl aF k p0.1.2.2,bS d [vS (p0.2.1.1.1),m,n,o,p,vI (p0.2.1.2.2.1),q] 176,Sl aJ m p0.2.1.1.2.1,Sl aF n p0.2.1.1.2.2,Sl bL o p0.2.1.2.1.1,S2 aW p v p0.2.1.2.1.2,S2 bL q f p0.2.1.2.2.2,S2 aW e g p0.2.2,bS t [b] 30,S2 bL b i p1] Ye (fun A r h=>y_ U s a j k d m n o p v q f e g t b i r h) w y) rfl (aA.cons (aC.res 1 rfl) (aA.cons (aC.fact 0 rfl) (aA.cons (aC.fact 1 rfl) (aA.cons (aC.fact 2 rfl) (aA.cons (aC.fact 3 rfl) (aA.cons (aC.fact 4 rfl) (aA.cons (aC.fact 5 rfl) (aA.cons (aC.fact 6 rfl) (aA.cons (aC.fact 7 rfl) (aA.cons (aC.fact 8 rfl) (aA.cons (aC.fact 9 rfl) (aA.cons (aC.res 0 rfl) (iJ [10] rfl)))))))))))))) rfl fun z=>qkAsg rfl<|dtN<|aN ?_
 cases h
 exact vH rfl
end
end Go.Proofs.YtpenklncfhiloaaGreatDoor
end
section
namespace Go.Proofs.YtpenklncfhiloaaGreatDoor
open Go Go.Sx
section
abbrev RL:=E×List (Nat×E)
abbrev Ag:=xP×GR×Int×a_
def CL (R:List RL):Jx:=R.map fun r=>(r.1.ts,r.2.map fun s=>((s.1:Int),s.2.ts))
def Jd (a:Nat) (e:E):Bool:=e.wf a false&&decide (e.depth<=100)&&decide (e.ts.length<=800)
def wC (a:Nat) (R:List RL):Bool:=decide (R.length<=20)&&R.all fun r=>Jd a r.1&&decide (r.2.length<=20)&&r.2.all fun s=>decide (s.1<a)&&Jd a s.2
instance:Inhabited E:=⟨.lf 1 0⟩
def Hi (g:GR) (v i:Nat):Int:=sD (row g (fX (row g v) i).1.toNat) (v:Int)
def eO (g:GR):a_:=(List.range g.2.length).map fun v=>(List.range (row g v).length).map (Hi g v)
def xN (S:Ag) (c:a_) (v:Nat) (e:E):Int:=e.den (Xi (S,c,(v:Int),[])) (row S.2.1 v).length (-1)
def uU (S:Ag) (R:List RL) (c:a_) (v:Nat):Int:=AR (R.map fun r=>xN S c v r.1)
def EX (kind:Int) (b:eS) (x:Int):Int:=if b.1<=x∧x<=b.2 then x else if kind=3 then -1 else if x<b.1 then b.1 else b.2
def Rm (S:Ag) (a:List EG) (c:a_) (v:Nat) (b:aQ) (s:Nat×E):aQ:=b.set s.1 (EX (at' a (s.1:Int)).2.1 (BD S.2.1 a v s.1) (xN S c v s.2))
def BO (S:Ag) (a:List EG) (R:List RL) (c:a_) (v:Nat) (i:Int):aQ:=(at' R i).2.foldl (Rm S a c v) (at' c (v:Int))
def VX (S:Ag) (R:List RL) (c:a_):Nat:=sJ (fun v=>decide (0<=uU S R c v)) S.2.1.2.length
def nG (S:Ag) (a:List EG) (R:List RL) (c:a_) (t:Nat):a_:=(List.range c.length).map fun v=>if t.testBit v=true then BO S a R c v (uU S R c v)else at' c (v:Int)
structure sF (g:GR) (nv:Nat) (c:a_):Prop where
 len:c.length=g.2.length
 row:∀v:Nat,v<g.2.length->(at' c (v:Int)).length=nv
theorem IA.shape {g:GR} {c:a_} {a:List EG} (h:IA g c a):sF g a.length c:=⟨h.len,h.row⟩
section
variable {S:Ag} {nv:Nat} {c:List (List Int)} {v:Nat}
theorem wok (b:S.2.2.2=eO S.2.1) (d:VG S.2.1) (hc:sF S.2.1 nv c) (g:v<S.2.1.2.length) (h:List (Int×Int)):WOk (S,c,(v:Int),h) nv S.2.1.2.length v:=by
 refine⟨rfl,g,rfl,d.len,hc.len,hc.row,fun u a i f=> ?_,by show S.2.2.2.length=_;rw[b];simp[eO],fun u a=>by
  show(at' S.2.2.2 (u:Int)).length=_
  rw[b,eO,uT _ a,List.length_map,List.length_range]⟩
 obtain⟨w,j,e⟩:=d.to a f
 show 0<=(fX (row S.2.1 u) i).1∧(fX (row S.2.1 u) i).1<_
 rw[e];omega
theorem MX (i:S.2.2.2=eO S.2.1) (a:VG S.2.1) (hc:sF S.2.1 nv c) (f:v<S.2.1.2.length) {e:E} (b:Jd nv e=true):fG 1000 S c (v:Int) e.ts=some (xN S c v e):=by
 simp only[Jd,Bool.and_eq_true,decide_eq_true_eq]at b
 have g:=a.n24
 have d:=(a.node v f).deg
 unfold fG
 have:=UQ (wok i a hc f e.ts) (deg:=(row S.2.1 v).length) rfl (by omega) b.2 e false 1000 0 (-1) [] [] (by simp) rfl b.1.1 (fun h=>by cases h) (by omega)
 rw[aZ (show bP 1000 _ (0:Int) (-1)=_ from this)]
 rfl
end
section
variable {p:xP} {g:GR} {gr:Int} {R:List RL} {nv:Nat} {c:List (List Int)} {v:Nat}
theorem Em (a:p.2.2.map vW=CL R):p.2.2.length=R.length:=by simpa [CL]using congrArg List.length a
theorem PG (b:p.2.2.map vW=CL R) {i:Nat} (a:i<R.length):vW (at' p.2.2 (i:Int))=((at' R (i:Int)).1.ts,(at' R (i:Int)).2.map fun s=>((s.1:Int),s.2.ts)):=by
 have d:=Em b
 have:=congrArg (fun q=>q[i]?) b
 simp only[CL,List.getElem?_map,List.getElem?_eq_getElem a,List.getElem?_eq_getElem (show i<p.2.2.length by omega),Option.map_some,Option.some.injEq]at this
 rw[iZ a,iZ (show i<p.2.2.length by omega)];exact this
theorem PM (a:wC nv R=true) {i:Nat} (b:i<R.length):Jd nv (at' R (i:Int)).1=true∧(at' R (i:Int)).2.length<=20∧∀s∈(at' R (i:Int)).2,s.1<nv∧Jd nv s.2=true:=by
 simp only[wC,Bool.and_eq_true,List.all_eq_true,decide_eq_true_eq]at a
 have:=a.2 (at' R (i:Int)) (by rw[iZ b];exact List.getElem_mem b)
 exact⟨this.1.1,this.1.2,fun s d=>this.2 s d⟩
theorem WJ (a:wC nv R=true):R.length<=20:=by
 simp only[wC,Bool.and_eq_true,decide_eq_true_eq]at a
 exact a.1
theorem TE (f:VG g) (hc:sF g nv c) (h:v<g.2.length) (b:p.2.2.map vW=CL R) (d:wC nv R=true) {i:Nat} (a:i<R.length):jH 1000 (p,g,gr,eO g) c (v:Int) (i:Int)=some (nz (xN (p,g,gr,eO g) c v (at' R (i:Int)).1)):=by
 have j:=Em b
 have e:(at' p.2.2 (i:Int)).2.1.2=(at' R (i:Int)).1.ts:=congrArg Prod.fst (PG b a)
 unfold jH
 dsimp only
 rw[cQ (by omega),e]
 rw[aZ (show fG 1000 _ c (v:Int) _=_ from MX (S:=(p,g,gr,eO g)) rfl f hc h (PM d a).1)]
 rfl
theorem PN (hV:VG g) (hc:sF g nv c) (hv:v<g.2.length) (hz:p.2.2.map vW=CL R) (hR:wC nv R=true) (tab:List (List (Int×Int))):eC 1000 (p,(p,g,gr,eO g),tab) c (v:Int)=some (uU (p,g,gr,eO g) R c v):=by
 have hl:=Em hz
 have h20:=WJ hR
 let l:=R.map fun r=>xN (p,g,gr,eO g) c v r.1
 have hll:l.length=R.length:=by simp[l]
 have hat:∀i,i<R.length->at' l (i:Int)=xN (p,g,gr,eO g) c v (at' R (i:Int)).1:=fun i hi=>by
  rw[iZ (by omega),iZ hi];simp[l]
 have stp:∀(k:Nat) ag,k<R.length->jF 1000 (p,(p,g,gr,eO g),tab) c (v:Int) (k:Int) ag=if nz (at' l (k:Int))=true then some (k:Int)else ag (((k+1:Nat):Int)):=by
  intro k ag hk
  unfold jF
  dsimp only
  rw[if_pos (by omega),aZ (show jH 1000 _ c (v:Int) (k:Int)=_ from TE hV hc hv hz hR hk),hat k hk,dY (by omega)]
 unfold eC uU
 by_cases hx:∃i,i<R.length∧at' l (i:Int)≠0
 ·obtain⟨i,hi,h0⟩:=hx
  obtain⟨m,h1,h2,h3⟩:=Jl (p:=fun i=>at' l (i:Int)≠0) i h0
  have h3:∀j,j<m->at' l (j:Int)=0:=fun j hj=>Decidable.not_not.1 (h3 j hj)
  rw[show AR _=(m:Int)from zG (l:=l) (by omega) h2 h3]
  exact dM (K:=some (m:Int)) m (fun k=>(k:Int)) (fun k ag hk=>by rw[stp k ag (by omega),if_neg (by simp[nz,h3 k hk])]) (fun ag=>by rw[stp m ag (by omega),if_pos (by simpa [nz]using h2)]) 1000 (by omega)
 ·have hx:∀j,j<l.length->at' l (j:Int)=0:=fun j hj=>Decidable.not_not.1 fun e=>hx ⟨j,by omega,e⟩
  rw[show AR _=(-1:Int)from zF (l:=l) hx]
  exact dM (K:=some (-1)) R.length (fun k=>(k:Int)) (fun k ag hk=>by rw[stp k ag hk,if_neg (by simp[nz,hx k (by omega)])]) (fun ag=>by
   unfold jF mG
   dsimp only
   rw[if_neg (by omega)]) 1000 (by omega)
theorem Er (S:Ag) (R:List RL) (c:List (List Int)) (v:Nat):uU S R c v = -1∨∃i:Nat,uU S R c v=(i:Int)∧i<R.length∧xN S c v (at' R (i:Int)).1≠0:=by
 let l:=R.map fun r=>xN S c v r.1
 by_cases h:∃i,i<l.length∧at' l (i:Int)≠0
 ·obtain⟨i,n,k⟩:=h
  obtain⟨m,o,f,a⟩:=Jl (p:=fun i=>at' l (i:Int)≠0) i k
  have a:∀j,j<m->at' l (j:Int)=0:=fun j b=>Decidable.not_not.1 (a j b)
  have d:m<R.length:=by simp[l]at n;omega
  refine .inr ⟨m,zG (l:=l) (by omega) f a,d,?_⟩
  have:at' l (m:Int)=xN S c v (at' R (m:Int)).1:=by rw[iZ (by simpa [l]using d),iZ d];simp[l]
  rw[<-this];exact f
 ·exact .inl (zF (l:=l) fun j b=>Decidable.not_not.1 fun e=>h ⟨j,b,e⟩)
theorem Oi {S:Ag} {R:List RL} {c:List (List Int)} {v:Nat}:uU S R c v = -1↔∀i:Nat,i<R.length->xN S c v (at' R (i:Int)).1=0:=by
 let l:=R.map fun r=>xN S c v r.1
 have hat:∀i,i<R.length->at' l (i:Int)=xN S c v (at' R (i:Int)).1:=fun i hi=>by rw[iZ (by simpa [l]using hi),iZ hi];simp[l]
 constructor
 ·intro h i hi
  refine Decidable.not_not.1 fun e=> ?_
  obtain⟨m,h1,h2,h3⟩:=Jl (p:=fun i=>at' l (i:Int)≠0) i (by rw[hat i hi];exact e)
  have h3:∀j,j<m->at' l (j:Int)=0:=fun j hj=>Decidable.not_not.1 (h3 j hj)
  have:uU S R c v=(m:Int):=zG (l:=l) (by simp[l];omega) h2 h3
  omega
 ·intro h
  exact zF (l:=l) fun j hj=>by rw[hat j (by simpa [l]using hj)];exact h j (by simpa [l]using hj)
theorem Hx (hV:VG g) (hc:sF g nv c) (hz:p.2.2.map vW=CL R) (hR:wC nv R=true) {tab:List (List (Int×Int))} (ht:tab.length=g.2.length):cU 1000 (p,(p,g,gr,eO g),tab) c=some ((VX (p,g,gr,eO g) R c:Nat):Int):=by
 have h24:=hV.n24
 unfold cU xX
 let q:Nat->Bool:=fun v=>decide (0<=uU (p,g,gr,eO g) R c v)
 have:=dM (step:=pZ (tab.length:Int) (fun y0=>jB 1000 y0 (p,(p,g,gr,eO g),tab) c)) (K:=some ((sJ q g.2.length:Nat):Int)) g.2.length (fun k=>(((sJ q k:Nat):Int),(k:Int))) (fun k ag hk=>by
  have hm:=Kr q (k:=k) (by omega)
  unfold pZ sP jB
  dsimp only
  rw[if_pos (by omega),aZ (show Option.bind (eC 1000 _ c (k:Int)) _=some (q k) by rw[aZ (show eC 1000 _ c (k:Int)=_ from PN hV hc hk hz hR tab)]),dY (by omega)]
  cases hq:q k with
  |true=>
   rw[if_pos rfl,cQ (by omega),Ka hm (by omega)]
   simp only[sJ,hq,if_true]
  |false=>
   rw[if_neg (by decide)]
   simp only[sJ,hq];rfl) (fun ag=>by
  unfold pZ wR
  dsimp only
  rw[if_neg (by omega)]) 1000 (by omega)
 rw[aZ (show bM _ 1000 ((0:Int),(0:Int))=_ from this)]
 rfl
end
end
section
theorem LF (f:Nat) (k:Int) (b:eS) (x:Int):qW f k b x=some (EX k b x):=by
 unfold qW sT EX
 by_cases a:b.1<=x
 ·by_cases c:x<=b.2
  ·simp only[a,c,and_self,if_true,decide_true]
  ·simp only[a,c,and_false,if_true,if_false,decide_false,Bool.false_eq_true]
   split
   ·rfl
   ·split<;>rfl
 ·simp only[a,false_and,if_false,Bool.false_eq_true]
  split
  ·rfl
  ·split<;>rfl
theorem ME {S:Ag} {a:List EG} {c:a_} {v:Nat} (l:List (Nat×E)) (b:aQ):(l.foldl (Rm S a c v) b).length=b.length:=by
 induction l generalizing b with
 |nil=>rfl
 |cons s l d=>rw[List.foldl_cons,d];simp[Rm]
theorem Jo {S:Ag} {a:List EG} {R:List RL} {c:a_} {v:Nat} {i:Int}:(BO S a R c v i).length=(at' c (v:Int)).length:=ME _ _
section
variable {p:xP} {g:GR} {gr:Int} {R:List RL} {c:List (List Int)} {v:Nat}
theorem Wy (z:VG g) (I:yC g p.2.1) (hc:sF g p.2.1.length c) (w:v<g.2.length) (D:p.2.2.map vW=CL R) (G:wC p.2.1.length R=true) {i:Nat} (A:i<R.length):
  j_ 1000 (p,(p,g,gr,eO g),tS g p.2.1) c (v:Int) (i:Int)=some (BO (p,g,gr,eO g) p.2.1 R c v (i:Int)):=by
 have F:=z.n24
 have H:=hc.len
 have l:=hc.row v w
 have M:=I.len
 have N:=Em D
 have o:=PG D A
 obtain⟨-,m,d⟩:=PM G A
 have C:(tS g p.2.1).length=g.2.length:=by simp[tS]
 have u:at' (tS g p.2.1) (v:Int)=yZ g p.2.1 v:=uT _ w
 have J:(yZ g p.2.1 v).length=p.2.1.length:=by simp[yZ]
 have x:(at' p.2.2 (i:Int)).2.2.2.map (fun s=>(s.1,s.2.2))=(at' R (i:Int)).2.map fun s=>((s.1:Int),s.2.ts):=congrArg Prod.snd o
 have n:(at' p.2.2 (i:Int)).2.2.2.length=(at' R (i:Int)).2.length:=by simpa using congrArg List.length x
 unfold j_
 dsimp only
 rw[cQ (by omega),cQ (by simp;omega),cQ (by omega),List.nil_append]
 unfold BO
 let a:=(at' R (i:Int)).2
 have:=dM (step:=jE 1000 (p,(p,g,gr,eO g),tS g p.2.1) c (v:Int) (i:Int)) (K:=some (a.foldl (Rm (p,g,gr,eO g) p.2.1 c v) (at' c (v:Int)))) a.length (fun k=>((k:Int),(a.take k).foldl (Rm (p,g,gr,eO g) p.2.1 c v) (at' c (v:Int)))) (fun k E e=>by
  have j:k<(at' p.2.2 (i:Int)).2.2.2.length:=by rw[n];exact e
  have y:((at' (at' p.2.2 (i:Int)).2.2.2 (k:Int)).1,(at' (at' p.2.2 (i:Int)).2.2.2 (k:Int)).2.2)=(((at' a (k:Int)).1:Int),(at' a (k:Int)).2.ts):=by
   have:=congrArg (fun q=>q[k]?) x
   simp only[List.getElem?_map,List.getElem?_eq_getElem j,List.getElem?_eq_getElem (show k<(at' R (i:Int)).2.length from e),Option.map_some,Option.some.injEq]at this
   rw[iZ j,iZ e];exact this
  have f:=congrArg Prod.fst y
  have h:=congrArg Prod.snd y
  dsimp only at f h
  obtain⟨r,t⟩:=d (at' a (k:Int)) (by rw[iZ e];exact List.getElem_mem e)
  have B:((a.take k).foldl (Rm (p,g,gr,eO g) p.2.1 c v) (at' c (v:Int))).length=p.2.1.length:=by rw[ME,l]
  have b:at' (yZ g p.2.1 v) ((at' a (k:Int)).1:Int)=BD g p.2.1 v (at' a (k:Int)).1:=uT _ r
  have L:a.length<=20:=m
  unfold jE
  dsimp only
  rw[if_pos (by omega),cQ (by omega),f,h,aZ (show fG 1000 _ c (v:Int) _=_ from MX (S:=(p,g,gr,eO g)) rfl z hc w t),cQ (by omega),cQ (by omega),u,cQ (by omega),b,aZ (LF 1000 _ _ _),cQ (by omega),dY (by omega),Int.toNat_natCast,Ay e,List.foldl_append]
  rfl) (fun E=>by
  unfold jE mF
  dsimp only
  rw[if_neg (by show¬(a.length:Int)<_;rw[n];exact Int.lt_irrefl _),List.take_length]) 1000 (by show(at' R (i:Int)).2.length<1000;omega)
 exact this
theorem WM (l:VG g) (r:yC g p.2.1) (hc:sF g p.2.1.length c) (s:p.2.2.map vW=CL R) (n:wC p.2.1.length R=true) {t:Nat} (b:t<4294967296) (A:∀v,t.testBit v=true->0<=uU (p,g,gr,eO g) R c v):
  iB 1000 (p,(p,g,gr,eO g),tS g p.2.1) c (t:Int)=some (nG (p,g,gr,eO g) p.2.1 R c t):=by
 have w:=l.n24
 have y:=hc.len
 have B:=r.len
 unfold iB
 rw[aZ (OY c (by omega) (fun v C=>by rw[hc.row v (by omega)];omega))]
 let f:Nat->List Int:=fun v=>if t.testBit v=true then BO (p,g,gr,eO g) p.2.1 R c v (uU (p,g,gr,eO g) R c v)else at' c (v:Int)
 let Q:Nat->List (List Int):=fun k=>(List.range k).map f++c.drop k
 have x:∀k,k<=c.length->(Q k).length=c.length:=fun k a=>by simp[Q];omega
 have j:∀k,k<c.length->(Q k).set k (f k)=Q (k+1):=fun k a=>by
  show((List.range k).map f++c.drop k).set k (f k)=(List.range (k+1)).map f++c.drop (k+1)
  rw[List.set_append_right _ _ (by simp),List.length_map,List.length_range,Nat.sub_self,List.drop_eq_getElem_cons a,List.set_cons_zero,List.range_succ,List.map_append,List.map_singleton,List.append_assoc]
  rfl
 have d:∀k,k<c.length->f k=at' c (k:Int)->Q k=Q (k+1):=fun k a z=>by
  show(List.range k).map f++c.drop k=(List.range (k+1)).map f++c.drop (k+1)
  rw[List.range_succ,List.drop_eq_getElem_cons a,List.map_append,List.map_singleton,z,iZ a]
  simp
 rw[show c=Q 0 by simp[Q]]
 refine dM (step:=gK 1000 (p,(p,g,gr,eO g),tS g p.2.1) (Q 0) (t:Int)) (K:=some (nG (p,g,gr,eO g) p.2.1 R (Q 0) t)) c.length (fun k=>((k:Int),Q k)) (fun k u a=> ?_) (fun u=> ?_) 1000 (by omega)
 ·rw[show Q 0=c by simp[Q]]
  unfold gK jG
  dsimp only
  rw[if_pos (by omega),cQ (by omega),dY (by omega)]
  by_cases h:t.testBit k=true
  ·obtain⟨i,o,m,_⟩:=(Er (p,g,gr,eO g) R c k).resolve_left (fun e=>by have:=A k h;omega)
   rw[if_pos ((NR (by omega) b).2 h),aZ (show eC 1000 _ c (k:Int)=_ from PN l hc (by omega) s n _),o,aZ (show j_ 1000 _ c (k:Int) (i:Int)=_ from Wy l r hc (by omega) s n m),cQ (by rw[x k (by omega)];omega),Int.toNat_natCast]
   have:BO (p,g,gr,eO g) p.2.1 R c k (i:Int)=f k:=by simp only[f];rw[if_pos h,o]
   rw[this,j k a]
  ·rw[if_neg (fun q=>h ((NR (by omega) b).1 q)),d k a (by simp only[f];rw[if_neg h])]
 ·rw[show Q 0=c by simp[Q]]
  unfold gK mH
  dsimp only
  rw[if_neg (by omega)]
  simp[Q,nG,f]
theorem Ju {S:Ag} {a:List EG} {t:Nat}:(nG S a R c t).length=c.length:=by simp[nG]
theorem Ib {S:Ag} {a:List EG} {t:Nat} (b:v<c.length):at' (nG S a R c t) (v:Int)=if t.testBit v=true then BO S a R c v (uU S R c v)else at' c (v:Int):=uT _ b
theorem sF.step {S:Ag} {a:List EG} {t:Nat} {d:Nat} {g:GR} (hc:sF g d c):sF g d (nG S a R c t):=⟨by rw[Ju,hc.len],fun v b=>by
 rw[Ib (by rw[hc.len];exact b)]
 split
 ·rw[Jo,hc.row v b]
 ·exact hc.row v b⟩
end
end
end Go.Proofs.YtpenklncfhiloaaGreatDoor
end
section
namespace Go.Proofs.YtpenklncfhiloaaGreatDoor
open Go.Sx
section
def kP  (a:Unit):Option (Bool):=
 some (true)
def gA (p0:aQ) (a:Int) (b:(Int)->Option (Bool)):Option (Bool):=
 if a<(List.length p0:Int)then(ck (0<=a∧a<(List.length p0:Int)) (if(qG .u32 (at' p0 a) (16777215:Int))≠(0:Int)then(some (false))else(b (wI .i64 (a+(1:Int))))))else(kP  (()))
def fR (U:Nat) (p0:aQ):Option (Bool):=
 bM (gA p0) U (0:Int)
theorem OP:aO Tryz.prog 130:=Tryz.call130
theorem yU (U:Nat) {p0:aQ} (v0:Value) (r:Bool) (h:fR U p0=some r):
  aV Tryz.prog 130 #[v0] [Sl wV v0 p0] (fun x:Unit=>vB (r)) (fun x l=>l) (fun _ l=>l):=by
 refine aV.of Tryz.func130 rfl Tryz.ntmps130 rfl fun c=>?_
 unfold fR at h
 refine sqR<|qkAsg rfl<|dtN<|aH<|midU (fun a1=>kP  a1=some r) (fun a1 b2=>[]) (fun a1 b2=>[]) ?_ ?_
 ·refine sqR<|qkMove rfl<|qkLen (aC.fact 0 rfl) rfl<|qkMove rfl<|dtN<|aR<|loopL (gA p0) (fun a5 b6=>[(5,v0),(6,vI (List.length p0:Int)),(7,vI (a5))]) (fun a5 b6=>[]) (0:Int) () h SF (aS.refl _) ?_
  intro k7 a5 b6 h
  refine sqR<|qkLss rfl<|dtN<|aH ?_
  refine eZ h rfl (fun h=>?_) fun h=>?_
  ·refine cL<|aH<|aR<|sqR<|ckE h fun j9 h=>aB (bG rfl rfl (aC.fact 0 rfl) rfl rfl j9) rfl<|aB (cK rfl (aC.fact 0 rfl) rfl rfl rfl AH j9) rfl<|qkAsg rfl<|dtN<|sqR<|qkMove rfl<|aB (DW rfl rfl) rfl<|qkNeq rfl<|dtN ?_
   refine eZ h rfl (fun h=>?_) fun h=>?_
   ·refine sqR<|qkAsg rfl<|dtN<|aN<|bT<|aI<|aI<|bT<|aI ?_
    cases h
    exact lD rfl
   refine eJ<|inT<|aM<|qkAdd rfl<|qkMove rfl<|dtN ?_
   exact Ah (wI .i64 (a5+(1:Int))) () h SF rfl
  refine gH ?_
  exact iQ () (()) h SF rfl
 intro a1 b2 h
 unfold kP at h
 refine sqR<|qkAsg rfl<|dtN<|aN ?_
 cases h
 exact lD rfl
end
section
def jK  (a:Bool):Option (Bool):=
 some (a)
def fV (U:Nat) (p0:Dg) (b:Bool):Option (Bool):=
 if b=true then(some (false))else(if(wI .i64 (p0.2.2.1+(1:Int)))<p0.2.2.2.1 then(some (false))else(if p0.1<=p0.2.1 then(if p0.2.1<=(wI .i64 ((24:Int)*p0.1))then(Option.bind (fR U ([p0.2.2.2.2])) fun a=>(jK  (a)))else(jK  (false)))else(jK  (false))))
def iR (U:Nat) (p0:Dg):Option (Bool):=
 if p0.1<(0:Int)then(fV U p0 (true))else(if(4096:Int)<p0.1 then(fV U p0 (true))else(if p0.2.2.1<(0:Int)then(fV U p0 (true))else(if p0.2.2.2.1<p0.2.2.1 then(fV U p0 (true))else(fV U p0 (decide (p0.1<p0.2.2.2.1))))))
theorem VA:aO Tryz.prog 129:=Tryz.call129
theorem Gi (U:Nat) {p0:Dg} (r:Bool) (h:iR U p0=some r):
  aV Tryz.prog 129 #[Value.agg #[vI (p0.1),vI (p0.2.1),vI (p0.2.2.1),vI (p0.2.2.2.1),vU (p0.2.2.2.2)]] [] (fun x:Unit=>vB (r)) (fun x l=>l) (fun _ l=>l):=by
 refine aV.of Tryz.func129 rfl Tryz.ntmps129 rfl fun c=>?_
 refine sqR<|aE (aG.box (cs:=[vI (p0.1),vI (p0.2.1),vI (p0.2.2.1),vI (p0.2.2.2.1),vU (p0.2.2.2.2)]) rfl rfl) rfl fun b1=>qkAsg rfl<|dtN<|aH<|aH<|midU (fun a3=>fV U p0 a3=some r) (fun a3 b4=>[(1,vP b1),(29,vB (a3))]) (fun a3 b4=>[bS b1 [vI (p0.1),vI (p0.2.1),vI (p0.2.2.1),vI (p0.2.2.2.1),vU (p0.2.2.2.2)] 62]) ?_ ?_
 ·refine aM<|qkFld rfl<|qkLd 0 rfl<|qkLss rfl<|qkMove rfl ?_
  refine AS h rfl (fun _ h=>?_) fun _ h=>?_
  ·refine gdSkip rfl<|gdSkip rfl<|gdSkip rfl<|qkPkT rfl<|qkMove rfl<|gdSkip rfl<|gdSkip rfl<|gdSkip rfl<|qkPkT rfl<|qkMove rfl<|gdSkip rfl<|gdSkip rfl<|gdSkip rfl<|gdSkip rfl<|gdSkip rfl<|qkPkT rfl<|qkMove rfl<|gdSkip rfl<|gdSkip rfl<|gdSkip rfl<|gdSkip rfl<|gdSkip rfl<|qkPkT rfl<|dtN ?_
   exact iQ (true) () h SF rfl
  refine aL rfl (dD rfl rfl rfl rfl rfl) rfl<|aL rfl (d_ 0 rfl rfl rfl rfl rfl) rfl<|aL rfl (wX rfl rfl) rfl<|qkPkF rfl<|qkMove rfl ?_
  refine AS h rfl (fun _ h=>?_) fun _ h=>?_
  ·refine gdSkip rfl<|gdSkip rfl<|gdSkip rfl<|qkPkT rfl<|qkMove rfl<|gdSkip rfl<|gdSkip rfl<|gdSkip rfl<|gdSkip rfl<|gdSkip rfl<|qkPkT rfl<|qkMove rfl<|gdSkip rfl<|gdSkip rfl<|gdSkip rfl<|gdSkip rfl<|gdSkip rfl<|qkPkT rfl<|dtN ?_
   exact iQ (true) () h SF rfl
  refine aL rfl (dD rfl rfl rfl rfl rfl) rfl<|aL rfl (d_ 0 rfl rfl rfl rfl rfl) rfl<|aL rfl (FJ rfl rfl) rfl<|qkPkF rfl<|qkMove rfl ?_
  refine AS h rfl (fun _ h=>?_) fun _ h=>?_
  ·refine gdSkip rfl<|gdSkip rfl<|gdSkip rfl<|gdSkip rfl<|gdSkip rfl<|qkPkT rfl<|qkMove rfl<|gdSkip rfl<|gdSkip rfl<|gdSkip rfl<|gdSkip rfl<|gdSkip rfl<|qkPkT rfl<|dtN ?_
   exact iQ (true) () h SF rfl
  refine aL rfl (dD rfl rfl rfl rfl rfl) rfl<|aL rfl (d_ 0 rfl rfl rfl rfl rfl) rfl<|aL rfl (dD rfl rfl rfl rfl rfl) rfl<|aL rfl (d_ 0 rfl rfl rfl rfl rfl) rfl<|aL rfl (wX rfl rfl) rfl<|qkPkF rfl<|qkMove rfl ?_
  refine AS h rfl (fun _ h=>?_) fun _ h=>?_
  ·refine gdSkip rfl<|gdSkip rfl<|gdSkip rfl<|gdSkip rfl<|gdSkip rfl<|qkPkT rfl<|dtN ?_
   exact iQ (true) () h SF rfl
  refine aL rfl (dD rfl rfl rfl rfl rfl) rfl<|aL rfl (d_ 0 rfl rfl rfl rfl rfl) rfl<|aL rfl (dD rfl rfl rfl rfl rfl) rfl<|aL rfl (d_ 0 rfl rfl rfl rfl rfl) rfl<|aL rfl (wX rfl rfl) rfl<|qkPkF rfl<|dtN ?_
  exact iQ (decide (p0.1<p0.2.2.2.1)) () h SF rfl
 intro a3 b4 h
 refine zQ h rfl (fun _ h=>?_) fun _ h=>?_
 ·refine sqR<|qkAsg rfl<|dtN<|aN<|aI ?_
  cases h
  exact vH rfl
 refine cL<|aH<|sqR<|qkFld rfl<|qkLd 0 rfl<|qkFld rfl<|qkLd 0 rfl<|qkAdd rfl<|aB (wX rfl rfl) rfl<|dtN ?_
 refine eZ h rfl (fun h=>?_) fun h=>?_
 ·refine sqR<|qkAsg rfl<|dtN<|aN<|aI ?_
  cases h
  exact vH rfl
 refine cL<|aH<|midU (fun a8=>jK  a8=some r) (fun a8 b9=>[(2,vB (a8))]) (fun a8 b9=>[]) ?_ ?_
 ·refine aM<|qkFld rfl<|qkLd 0 rfl<|qkFld rfl<|qkLd 0 rfl<|aB (Bg rfl rfl) rfl<|qkMove rfl ?_
  refine AS h rfl (fun _ h=>?_) fun _ h=>?_
  ·refine aL rfl (dD rfl rfl rfl rfl rfl) rfl<|aL rfl (d_ 0 rfl rfl rfl rfl rfl) rfl<|aL rfl (dD rfl rfl rfl rfl rfl) rfl<|aL rfl (d_ 0 rfl rfl rfl rfl rfl) rfl<|aL rfl (AL rfl rfl) rfl<|aL rfl (Bg rfl rfl) rfl<|qkPkT rfl<|qkMove rfl ?_
   refine AS h rfl (fun _ h=>?_) fun _ h=>?_
   ·refine aL rfl (dD rfl rfl rfl rfl rfl) rfl<|aL rfl (d_ 0 rfl rfl rfl rfl rfl) rfl<|pB rfl (cR (e:=nQ) ([p0.2.2.2.2]) [(0,vU (p0.2.2.2.2))] rfl rfl rfl rfl (pK (vU (p0.2.2.2.2)) rfl) rfl rfl rfl) rfl fun u12=>bnE h fun r13 w14 h=>pB rfl (aG.callQ OP (yU U u12 r13 w14) rfl (aA.cons (aT (aC.res 0 rfl) jP) .nil)) rfl fun x15=>qkPkT rfl<|qkAsg rfl<|dtN ?_
    exact bO (r13) () h SF .nil (aA.refl _ _)
   refine gdSkip rfl<|gdSkip rfl<|gdSkip rfl<|gdSkip rfl<|qkPkF rfl<|qkAsg rfl<|dtN ?_
   exact bO (false) () h SF .nil (aA.refl _ _)
  refine gdSkip rfl<|gdSkip rfl<|gdSkip rfl<|gdSkip rfl<|gdSkip rfl<|gdSkip rfl<|qkPkF rfl<|qkMove rfl<|gdSkip rfl<|gdSkip rfl<|gdSkip rfl<|gdSkip rfl<|qkPkF rfl<|qkAsg rfl<|dtN ?_
  exact bO (false) () h SF .nil (aA.refl _ _)
 intro a8 b9 h
 unfold jK at h
 refine aN ?_
 cases h
 exact lD rfl
end
section
def lV (U:Nat) (p0:Int):Option (Int):=
 ck (0<=(24:Int)) (ck (0<=(oU .u32 p0 (24:Int))∧(oU .u32 p0 (24:Int))<(List.length US:Int)) (ck (0<=(16:Int)) (ck (0<=(dC .u32 (oU .u32 p0 (16:Int)) (255:Int))∧(dC .u32 (oU .u32 p0 (16:Int)) (255:Int))<(List.length US:Int)) (ck (0<=(8:Int)) (ck (0<=(dC .u32 (oU .u32 p0 (8:Int)) (255:Int))∧(dC .u32 (oU .u32 p0 (8:Int)) (255:Int))<(List.length US:Int)) (ck (0<=(dC .u32 p0 (255:Int))∧(dC .u32 p0 (255:Int))<(List.length US:Int)) (some (wI .i64 (wI .u8 ((wI .u8 ((wI .u8 ((at' US (oU .u32 p0 (24:Int)))+(at' US (dC .u32 (oU .u32 p0 (16:Int)) (255:Int)))))+(at' US (dC .u32 (oU .u32 p0 (8:Int)) (255:Int)))))+(at' US (dC .u32 p0 (255:Int)))))))))))))
theorem VB:aO Tryz.prog 131:=Tryz.call131
theorem Dz (U:Nat) {p0:Int} (r:Int) (h:lV U p0=some r):
  aV Tryz.prog 131 #[vU (p0)] [] (fun x:Unit=>vI (r)) (fun x l=>l) (fun _ l=>l):=by
 refine aV.of Tryz.func131 rfl Tryz.ntmps131 rfl fun c=>?_
 refine sqR<|qkAsg rfl<|dtN<|aH ?_
 refine JR.start [0,1,3,0,8,24,56,127,0,256,768,1792,4095,0,8192,24576,65535,131071,262143] 16 mixedOrders (by decide +kernel) ?_
 refine JR.open (by exact rfl) ?_
 refine jkMove rfl<|ckE h fun a h=>jqN rfl (He rfl rfl a)<|ckE h fun b h=>jqN rfl (AK rfl rfl rfl Kf b)<|jkMove rfl<|ckE h fun d h=>jqN rfl (He rfl rfl d)<|jqN rfl (Lu rfl rfl)<|ckE h fun e h=>jqN rfl (AK rfl rfl rfl Kf e)<|jqN rfl (xE rfl rfl)<|jkMove rfl<|ckE h fun f h=>jqN rfl (He rfl rfl f)<|jqN rfl (Lu rfl rfl)<|ckE h fun g h=>jqN rfl (AK rfl rfl rfl Kf g)<|jqN rfl (xE rfl rfl)<|jkMove rfl<|jqN rfl (Lu rfl rfl)<|ckE h fun i h=>jqN rfl (AK rfl rfl rfl Kf i)<|bF 16 rfl rfl<|qkAdd rfl<|aB (EN rfl rfl rfl) rfl<|qkAsg rfl<|dtN<|aN ?_
 cases h
 exact lD rfl
end
section
def n_ (p0:Dg) (b:Int) (a:eS):Option ((Int×Int×Int×Int×Int)×Int):=
 some ((((wI .i64 (p0.1+(1:Int))),(wI .i64 (p0.2.1+b)),a.1,(wI .i64 (p0.2.2.1+(1:Int))),a.2)),(0:Int))
def nZ (U:Nat) (p0:Dg) (p1:Int) (p2:Int) (b:Bool):Option ((Int×Int×Int×Int×Int)×Int):=
 if b=true then(some ((((0:Int),(0:Int),(0:Int),(0:Int),(0:Int))),(11:Int)))else(if p0.1=(4096:Int)then(some ((((0:Int),(0:Int),(0:Int),(0:Int),(0:Int))),(3:Int)))else(Option.bind (lV U p1) fun a=>(if(dC .u32 (qG .u32 p0.2.2.2.2 p1) p2)=(0:Int)then(n_ p0 a ((wI .i64 (p0.2.2.1+(1:Int))),p2))else(n_ p0 a (p0.2.2.1,(dC .u32 (qG .u32 p0.2.2.2.2 p1) p2))))))
def lB (U:Nat) (p0:Dg) (p1:Int) (p2:Int):Option ((Int×Int×Int×Int×Int)×Int):=
 Option.bind (iR U ((p0.1,p0.2.1,p0.2.2.1,p0.2.2.2.1,p0.2.2.2.2))) fun r3=>(if(!r3)=true then(some ((((0:Int),(0:Int),(0:Int),(0:Int),(0:Int))),(7:Int)))else(if p1=(0:Int)then(nZ U p0 p1 p2 (true))else(Option.bind (fR U ([p1,p2])) fun r22=>(nZ U p0 p1 p2 ((!r22))))))
theorem Vx:aO Tryz.prog 104:=Tryz.call104
theorem ID (U:Nat) {p0:Dg} {p1:Int} {p2:Int} (r:(Int×Int×Int×Int×Int)×Int) (h:lB U p0 p1 p2=some r):
  aV Tryz.prog 104 #[Value.agg #[vI (p0.1),vI (p0.2.1),vI (p0.2.2.1),vI (p0.2.2.2.1),vU (p0.2.2.2.2)],vU (p1),vU (p2)] [] (fun x:Unit=>Value.tuple #[Value.agg #[vI (r.1.1),vI (r.1.2.1),vI (r.1.2.2.1),vI (r.1.2.2.2.1),vU (r.1.2.2.2.2)],vI (r.2)]) (fun x l=>l) (fun _ l=>l):=by
 refine aV.of Tryz.func104 rfl Tryz.ntmps104 rfl fun c=>?_
 refine sqR<|aE (aG.box (cs:=[vI (p0.1),vI (p0.2.1),vI (p0.2.2.1),vI (p0.2.2.2.1),vU (p0.2.2.2.2)]) rfl rfl) rfl fun b1=>aE (aG.alloc (cs:=Xr) rfl rfl) rfl fun b2=>qkAsg rfl<|dtN<|aH<|sqR<|qkLdA 1 rfl<|bnE h fun r3 w4 h=>aE (aG.callQ VA (Gi U  r3 w4) rfl .nil) rfl fun x5=>aB (o_ rfl) rfl<|dtN ?_
 refine zQ h rfl (fun _ h=>?_) fun _ h=>?_
 ·refine sqR ?_
  refine aB (yD (r:=Value.agg #[vI (0:Int),vI (0:Int),vI (0:Int),vI (0:Int),vU (0:Int)]) (by intro w;simp[Instr.build,Instr.fill,bV,bQ,bK,bW,bX,bR,cC])) rfl ?_
  refine aY 0 (vs:=Xr) rfl rfl rfl rfl rfl rfl<|qkAsg rfl<|dtN<|aN<|aI ?_
  cases h
  exact dR () rfl rfl (RV.cell 0 rfl rfl rfl rfl) (RV.tmp rfl) .nil aA.nil
 refine cL<|aH<|aH<|midU (fun a8=>nZ U p0 p1 p2 a8=some r) (fun a8 b9=>[(1,vU (p1)),(2,vU (p2)),(3,vP b1),(6,vP b2),(20,vB (a8))]) (fun a8 b9=>[bS b2 Xr 62,bS b1 [vI (p0.1),vI (p0.2.1),vI (p0.2.2.1),vI (p0.2.2.2.1),vU (p0.2.2.2.2)] 62]) ?_ ?_
 ·refine aM<|qkMove rfl<|qkEql rfl<|qkMove rfl ?_
  refine AS h rfl (fun _ h=>?_) fun _ h=>?_
  ·refine gdSkip rfl<|gdSkip rfl<|gdSkip rfl<|gdSkip rfl<|gdSkip rfl<|qkPkT rfl<|dtN ?_
   exact iQ (true) () h SF rfl
  refine gyMove rfl<|gyMove rfl<|pB rfl (cR (e:=nQ) ([p1,p2]) [(0,vU (p1)),(1,vU (p2))] rfl rfl rfl rfl (Tt (vU (p1)) (vU (p2)) rfl rfl) rfl rfl rfl) rfl fun u21=>bnE h fun r22 w23 h=>pB rfl (aG.callQ OP (yU U u21 r22 w23) rfl (aA.cons (aT (aC.res 0 rfl) jP) .nil)) rfl fun x24=>aL rfl (o_ rfl) rfl<|qkPkF rfl<|dtN ?_
  exact bO ((!r22)) () h SF (aS.ix [1,2] rfl rfl) (aA.refl _ _)
 intro a8 b9 h
 refine zQ h rfl (fun _ h=>?_) fun _ h=>?_
 ·refine sqR ?_
  refine aB (yD (r:=Value.agg #[vI (0:Int),vI (0:Int),vI (0:Int),vI (0:Int),vU (0:Int)]) (by intro w;simp[Instr.build,Instr.fill,bV,bQ,bK,bW,bX,bR,cC])) rfl ?_
  refine aY 0 (vs:=Xr) rfl rfl rfl rfl rfl rfl<|qkAsg rfl<|dtN<|aN<|aI ?_
  cases h
  exact dR () rfl rfl (RV.cell 0 rfl rfl rfl rfl) (RV.tmp rfl) .nil aA.nil
 refine cL<|aH<|sqR<|qkFld rfl<|qkLd 1 rfl<|qkEql rfl<|dtN ?_
 refine eZ h rfl (fun h=>?_) fun h=>?_
 ·refine sqR ?_
  refine aB (yD (r:=Value.agg #[vI (0:Int),vI (0:Int),vI (0:Int),vI (0:Int),vU (0:Int)]) (by intro w;simp[Instr.build,Instr.fill,bV,bQ,bK,bW,bX,bR,cC])) rfl ?_
  refine aY 0 (vs:=Xr) rfl rfl rfl rfl rfl rfl<|qkAsg rfl<|dtN<|aN<|aI ?_
  cases h
  exact dR () rfl rfl (RV.cell 0 rfl rfl rfl rfl) (RV.tmp rfl) .nil aA.nil
 refine cL<|sqR<|qkFld rfl<|qkLd 1 rfl<|qkAdd rfl<|qkFld rfl<|fY 1 rfl rfl rfl rfl rfl rfl<|dtN<|aH ?_
 refine JR.start [0,1,0,4,15,31,63] 4 mixedOrders (by decide +kernel) ?_
 refine JR.open (by exact rfl) ?_
 refine jkFld rfl<|jkLd 1 rfl<|jkMove rfl<|bnE h fun r12 w13 h=>JR.loud rfl rfl rfl (aG.callQ VB (Dz U  r12 w13) rfl .nil) rfl (fun x14=>(jM [([1],[])] rfl)) fun x14=>bF 4 rfl rfl<|qkAdd rfl<|qkFld rfl<|fY 1 rfl rfl rfl rfl rfl rfl<|dtN<|sqR<|qkFld rfl<|qkLd 1 rfl<|qkAdd rfl<|qkFld rfl<|fY 1 rfl rfl rfl rfl rfl rfl<|dtN<|sqR<|qkFld rfl<|qkLd 1 rfl<|qkMove rfl<|aB (DW rfl rfl) rfl<|qkMove rfl<|qkAnd rfl<|qkFld rfl<|fY 1 rfl rfl rfl rfl rfl rfl<|dtN<|aH<|midU (fun a17=>n_ p0 r12 a17=some r) (fun a17 b18=>[(3,vP b1),(6,vP b2)]) (fun a17 b18=>[bS b2 Xr 62,bS b1 [vI (wI .i64 (p0.1+(1:Int))),vI (wI .i64 (p0.2.1+r12)),vI (a17.1),vI (wI .i64 (p0.2.2.1+(1:Int))),vU (a17.2)] 62]) ?_ ?_
 ·refine sqR<|qkFld rfl<|qkLd 1 rfl<|qkEql rfl<|dtN ?_
  refine eZ h rfl (fun h=>?_) fun h=>?_
  ·refine sqR<|qkFld rfl<|qkLd 1 rfl<|qkFld rfl<|fY 1 rfl rfl rfl rfl rfl rfl<|dtN<|aM<|qkMove rfl<|qkFld rfl<|fY 1 rfl rfl rfl rfl rfl rfl<|dtN ?_
   exact iQ ((wI .i64 (p0.2.2.1+(1:Int))),p2) () h SF rfl
  refine cL ?_
  exact iQ (p0.2.2.1,(dC .u32 (qG .u32 p0.2.2.2.2 p1) p2)) () h SF rfl
 intro a17 b18 h
 unfold n_ at h
 refine sqR<|qkLdA 1 rfl<|aY 0 (vs:=[vI (wI .i64 (p0.1+(1:Int))),vI (wI .i64 (p0.2.1+r12)),vI (a17.1),vI (wI .i64 (p0.2.2.1+(1:Int))),vU (a17.2)]) rfl rfl rfl rfl rfl rfl<|qkAsg rfl<|dtN<|aN ?_
 cases h
 exact dR () rfl rfl (RV.cell 0 rfl rfl rfl rfl) (RV.tmp rfl) .nil aA.nil
end
end Go.Proofs.YtpenklncfhiloaaGreatDoor
end
section
namespace Go.Proofs.YtpenklncfhiloaaGreatDoor
open Go Go.Sx
section
abbrev CT:=Dg
theorem CZ (l:aQ) (h:l.length<=900):∃b,fR 1000 l=some b:=by
 unfold fR
 have:=Cv (step:=gA l) (Q:=fun _:Bool=>True) (fun i:Int=>∃k:Nat,i=(k:Int)∧k<=l.length) (fun i=>l.length - i.toNat) (fun i f c a=>by
  obtain⟨k,rfl,g⟩:=c
  unfold gA kP
  by_cases e:k<l.length
  ·rw[if_pos (by omega),cQ (by omega)]
   split
   ·exact⟨_,rfl,trivial⟩
   ·rw[dY (by omega)]
    exact a _ ⟨k+1,rfl,by omega⟩ (by omega)
  ·rw[if_neg (by omega)]
   exact⟨_,rfl,trivial⟩) 1000 0 ⟨0,rfl,by omega⟩ (by omega)
 obtain⟨b,d,_⟩:=this
 exact⟨b,d⟩
theorem JY (k:CT):∃b,iR 1000 k=some b:=by
 obtain⟨q,hq⟩:=CZ [k.2.2.2.2] (by simp)
 have key:∀a,∃b,fV 1000 k a=some b:=by
  intro a
  unfold fV jK
  split
  ·exact⟨_,rfl⟩
  ·split
   ·exact⟨_,rfl⟩
   ·split
    ·split
     ·rw[aZ hq];exact⟨_,rfl⟩
     ·exact⟨_,rfl⟩
    ·exact⟨_,rfl⟩
 unfold iR
 repeat' split
 all_goals exact key _
theorem Ra {t:Nat} (i:t<4294967296):∃n,lV 1000 (t:Int)=some n:=by
 have g:(List.length US:Int)=256:=by decide +kernel
 have b:∀a:Nat,a<4294967296->0<=dC .u32 (a:Int) 255∧dC .u32 (a:Int) 255<256:=fun a f=>by
  rw[show(255:Int)=((255:Nat):Int)from rfl,DY f (by omega)]
  have:a &&& 255<=255:=Nat.and_le_right
  omega
 have c:∀k:Nat,k<32->oU .u32 (t:Int) (k:Int)=((t / 2^k:Nat):Int):=fun k h=>Kb h
 have e:oU .u32 (t:Int) 24=((t / 2^24:Nat):Int):=c 24 (by omega)
 have d:oU .u32 (t:Int) 16=((t / 2^16:Nat):Int):=c 16 (by omega)
 have j:oU .u32 (t:Int) 8=((t / 2^8:Nat):Int):=c 8 (by omega)
 unfold lV
 rw[g,e,d,j,cQ (by decide),cQ (by omega),cQ (by decide),cQ (b _ (by omega)),cQ (by decide),cQ (b _ (by omega)),cQ (b _ i)]
 exact⟨_,rfl⟩
theorem Sq (k:CT) {t:Nat} (ht:t<4294967296) (e:Int):∃r,lB 1000 k (t:Int) e=some r:=by
 obtain⟨b,hb⟩:=JY k
 obtain⟨q,hq⟩:=CZ [(t:Int),e] (by simp)
 obtain⟨n,hn⟩:=Ra ht
 have key:∀a,∃r,nZ 1000 k (t:Int) e a=some r:=by
  intro a
  unfold nZ n_
  split
  ·exact⟨_,rfl⟩
  ·split
   ·exact⟨_,rfl⟩
   ·rw[aZ hn]
    split<;>exact⟨_,rfl⟩
 unfold lB
 rw[aZ (show iR 1000 _=some b from hb)]
 split
 ·exact⟨_,rfl⟩
 ·split
  ·exact key _
  ·rw[aZ hq];exact key _

def bY (p:xP) (g:GR):Ag:=(p,g,iF g g.2.length,eO g)
end
section
def vC (S:Ag) (R:List RL) (a:Nat) (c:a_):Nat:=VX S R c &&& a
theorem Pb (S:Ag) (R:List RL) (c:a_) (v:Nat):(VX S R c).testBit v=(decide (v<S.2.1.2.length)&&decide (0<=uU S R c v)):=Fi _ v _
theorem AO (S:Ag) (R:List RL) (a:Nat) (c:a_) (v:Nat):(vC S R a c).testBit v=true↔v<S.2.1.2.length∧0<=uU S R c v∧a.testBit v=true:=by
 unfold vC
 rw[Nat.testBit_and,Pb,Bool.and_eq_true,Bool.and_eq_true,decide_eq_true_eq,decide_eq_true_eq,and_assoc]
theorem Yx {S:Ag} (a:VG S.2.1) (R:List RL) (c:a_):VX S R c<4294967296:=Kr _ (by have:=a.n24;omega)
theorem Yy (S:Ag) (R:List RL) (a:Nat) (c:a_):RF S.2.1 (vC S R a c):=fun i b=>((AO S R a c i).1 b).1
def BK (ch:gJ):aQ:=ch.map fun t=>((t:Nat):Int)
end
end Go.Proofs.YtpenklncfhiloaaGreatDoor
end
section
namespace Go.Proofs.YtpenklncfhiloaaGreatDoor
open Go.Sx
section
def pI  (a:Bool):Option (Bool):=
 some (a)
def uN (U:Nat) (p0:Int):Option (Bool):=
 if(1:Int)<=p0 then(pI  (decide (p0<=(4:Int))))else(pI  (false))
theorem Yg:aO Tryz.prog 71:=Tryz.call71
theorem Ie (U:Nat) {p0:Int} (r:Bool) (h:uN U p0=some r):
  aV Tryz.prog 71 #[vI (p0)] [] (fun x:Unit=>vB (r)) (fun x l=>l) (fun _ l=>l):=by
 refine aV.of Tryz.func71 rfl Tryz.ntmps71 rfl fun c=>?_
 refine sqR<|qkAsg rfl<|dtN<|aH<|midU (fun a2=>pI  a2=some r) (fun a2 b3=>[(2,vB (a2))]) (fun a2 b3=>[]) ?_ ?_
 ·refine aM<|qkMove rfl<|aB (Bf rfl rfl) rfl<|qkMove rfl ?_
  refine AS h rfl (fun _ h=>?_) fun _ h=>?_
  ·refine gyMove rfl<|aL rfl (Bg rfl rfl) rfl<|qkPkT rfl<|qkAsg rfl<|dtN ?_
   exact iQ (decide (p0<=(4:Int))) () h SF rfl
  refine gdSkip rfl<|gdSkip rfl<|qkPkF rfl<|qkAsg rfl<|dtN ?_
  exact iQ (false) () h SF rfl
 intro a2 b3 h
 unfold pI at h
 refine aN ?_
 cases h
 exact lD rfl
end
section
def w_ (U:Nat) (p0:qC) (p1:cT) (p2:Int) (p3:a_) (p4:Int):Option (Int):=
 Option.bind (lX U ((p0.1,p0.2.1,p0.2.2)) ((p1.1,p1.2)) p3) fun r3=>(if r3≠(0:Int)then(some (r3))else(Option.bind (uN U p2) fun r7=>(if(!r7)=true then(some (12:Int))else(if(4096:Int)<p4 then(some (3:Int))else(some (0:Int))))))
theorem XY:aO Tryz.prog 49:=Tryz.call49
theorem MK (U:Nat) {p0:qC} {p1:cT} {p2:Int} {p3:a_} {p4:Int} (v0:Value)  (v1:Value)  (v2:Value)  (v3:Value)  (z4:jT)  (v5:Value)  (z6:oV) (r:Int) (h:w_ U p0 p1 p2 p3 p4=some r):
  aV Tryz.prog 49 #[Value.agg #[vS (p0.1),v0,v1],Value.agg #[v2,v3],vI (p2),v5,vI (p4)] [Sl aJ v0 p0.2.1,Sl aF v1 p0.2.2,PF (Value.agg #[vS p0.1,v0,v1]),Sl bL v2 p1.1,S2 aW v3 z4 p1.2,S2 bL v5 z6 p3] (fun x:Unit=>vI (r)) (fun x l=>l) (fun _ l=>l):=by
 refine aV.of Tryz.func49 rfl Tryz.ntmps49 rfl fun c=>?_
 refine sqR<|aE (aG.box (cs:=[vS (p0.1),v0,v1]) rfl rfl) rfl fun b1=>aE (aG.box (cs:=[v2,v3]) rfl rfl) rfl fun b2=>qkAsg rfl<|dtN<|aH<|sqR<|qkLdA 1 rfl<|qkLdA 0 rfl<|qkMove rfl<|bnE h fun r3 w4 h=>aE (aG.callQ SJ (B_ U v0 v1 v2 v3 z4 v5 z6 r3 w4) rfl (iJ [0,1,2,3,4,5] rfl)) rfl fun x5=>qkAsg rfl<|dtN<|sqR<|qkMove rfl<|qkNeq rfl<|dtN ?_
 refine eZ h rfl (fun h=>?_) fun h=>?_
 ·refine sqR<|qkMove rfl<|qkAsg rfl<|dtN<|aN<|aI ?_
  cases h
  exact vH rfl
 refine cL<|aH<|sqR<|qkMove rfl<|bnE h fun r7 w8 h=>aE (aG.callQ Yg (Ie U  r7 w8) rfl .nil) rfl fun x9=>aB (o_ rfl) rfl<|dtN ?_
 refine zQ h rfl (fun _ h=>?_) fun _ h=>?_
 ·refine sqR<|qkAsg rfl<|dtN<|aN<|aI ?_
  cases h
  exact vH rfl
 refine cL<|aH<|sqR<|qkMove rfl<|aB (wX rfl rfl) rfl<|dtN ?_
 refine eZ h rfl (fun h=>?_) fun h=>?_
 ·refine sqR<|qkAsg rfl<|dtN<|aN<|aI ?_
  cases h
  exact vH rfl
 refine cL<|sqR<|qkAsg rfl<|dtN<|aN ?_
 cases h
 exact vH rfl
end
section
def rR (U:Nat) (p0:a_) (p1:Int) (p2:Dg):Option (Unit):=
 some (())
theorem SH:aO Tryz.prog 51:=Tryz.call51
theorem EC (U:Nat) {p0:a_} {p1:Int} {p2:Dg} (a:Value)  (b:oV) (r:Unit) (h:rR U p0 p1 p2=some r):
  aV Tryz.prog 51 #[a,vU (p1),Value.agg #[vI (p2.1),vI (p2.2.1),vI (p2.2.2.1),vI (p2.2.2.2.1),vU (p2.2.2.2.2)]] [S2 bL a b p0] (fun x:Unit=>Value.tuple #[]) (fun x l=>l) (fun _ l=>l):=by
 refine aV.of Tryz.func51 rfl Tryz.ntmps51 rfl fun c=>?_
 unfold rR at h
 refine aM<|aE (aG.box (cs:=[vI (p2.1),vI (p2.2.1),vI (p2.2.2.1),vI (p2.2.2.2.1),vU (p2.2.2.2.2)]) rfl rfl) rfl fun d=>eI ?_
 cases h
 exact Ci () rfl rfl .normal (.inr rfl) .nil aA.nil
end
section
def sY (U:Nat) (p0:Int):Option ((Int×Int×Int×Int×Int)):=
 some (((0:Int),(0:Int),(0:Int),(0:Int),(dC .u32 p0 (16777215:Int))))
theorem Vv:aO Tryz.prog 101:=Tryz.call101
theorem Gh (U:Nat) {p0:Int} (r:(Int×Int×Int×Int×Int)) (h:sY U p0=some r):
  aV Tryz.prog 101 #[vU (p0)] [] (fun x:Unit=>Value.agg #[vI (r.1),vI (r.2.1),vI (r.2.2.1),vI (r.2.2.2.1),vU (r.2.2.2.2)]) (fun x l=>l) (fun _ l=>l):=by
 refine aV.of Tryz.func101 rfl Tryz.ntmps101 rfl fun c=>?_
 unfold sY at h
 refine sqR<|aE (aG.alloc (cs:=Xr) rfl rfl) rfl fun a=>dtN<|sqR<|qkMove rfl<|qkAnd rfl ?_
 refine aB (Sf (r:=Value.agg #[vI (0:Int),vI (0:Int),vI (0:Int),vI (0:Int),vU (dC .u32 p0 (16777215:Int))]) rfl (by intro w;simp[Instr.build,Instr.fill,bV,bQ,bK,bW,bX,bR,cC])) rfl ?_
 refine aY 0 (vs:=[vI (0:Int),vI (0:Int),vI (0:Int),vI (0:Int),vU (dC .u32 p0 (16777215:Int))]) rfl rfl rfl rfl rfl rfl<|dtN<|aN ?_
 cases h
 exact gE () rfl rfl (RV.cell 0 rfl rfl rfl rfl) .nil aA.nil
end
section
def zY  (a:PT):Option Bc:=
 some (((a.2.2.2.2.2.2.1,a.2.2.2.2.2.2.2.1,a.2.2.2.2.2.2.2.2,((a.1,a.2.1,a.2.2.1,a.2.2.2.1,a.2.2.2.2.1)))),a.2.2.2.2.2.1)
def wM  (a:aQ×aQ×a_×Int×Int×Int×Int×Int×Int):Option Bc:=
 zY  (a.2.2.2.1,a.2.2.2.2.1,a.2.2.2.2.2.1,a.2.2.2.2.2.2.1,a.2.2.2.2.2.2.2.1,a.2.2.2.2.2.2.2.2,a.1,a.2.1,a.2.2.1)
def sL  (a:aQ×Int×Int×Int×Int×Int×a_×aQ):Option Bc:=
 wM  (a.2.2.2.2.2.2.2,a.1,a.2.2.2.2.2.2.1,a.2.1,a.2.2.1,a.2.2.2.1,a.2.2.2.2.1,a.2.2.2.2.2.1,(0:Int))
def zZ (U:Nat) (p0:qC) (p1:cT) (p2:Int) (a20:Int×aQ×cJ×Int×a_) (a117:Int×aQ×Int×Int×Int×Int×Int×Int×a_×aQ) (ag116:(Int×aQ×Int×Int×Int×Int×Int×Int×a_×aQ)->Option Bc) (a122:Int):Option Bc:=
 if¬(a117.1≠(0:Int))then(sL  (a117.2.1,a117.2.2.2.1,a117.2.2.2.2.1,a117.2.2.2.2.2.1,a117.2.2.2.2.2.2.1,a117.2.2.2.2.2.2.2.1,a117.2.2.2.2.2.2.2.2.1,a117.2.2.2.2.2.2.2.2.2))else(Option.bind (eX U a20.2.1 p2 a117.1 a122) fun r125=>(if(!r125)=true then(wM  (([]:aQ),([]:aQ),([]:a_),(0:Int),(0:Int),(0:Int),(0:Int),(0:Int),(11:Int)))else(Option.bind (iB U ((((p0.1,p0.2.1,p0.2.2)),((((p0.1,p0.2.1,p0.2.2)),((p1.1,p1.2)),a20.2.2.2.1,a20.2.2.2.2)),a20.2.2.1)) a117.2.2.2.2.2.2.2.2.1 a122) fun r129=>(Option.bind (cU U ((((p0.1,p0.2.1,p0.2.2)),((((p0.1,p0.2.1,p0.2.2)),((p1.1,p1.2)),a20.2.2.2.1,a20.2.2.2.2)),a20.2.2.1)) r129) fun r132=>(Option.bind (lB U ((a117.2.2.2.1,a117.2.2.2.2.1,a117.2.2.2.2.2.1,a117.2.2.2.2.2.2.1,a117.2.2.2.2.2.2.2.1)) a122 (dC .u32 r132 a20.1)) fun r135=>(Option.bind (rR U r129 (dC .u32 r132 a20.1) ((r135.1.1,r135.1.2.1,r135.1.2.2.1,r135.1.2.2.2.1,r135.1.2.2.2.2))) fun r138=>(ck ((List.length a117.2.2.2.2.2.2.2.2.2:Int)+(List.length ([a122]):Int)<=1099511627) (ck ((List.length a117.2.1:Int)+(List.length ([(dC .u32 r132 a20.1)]):Int)<=1099511627) (ag116 ((dC .u32 r132 a20.1),(a117.2.1++([(dC .u32 r132 a20.1)])),(wI .i64 (a117.2.2.1+(1:Int))),r135.1.1,r135.1.2.1,r135.1.2.2.1,r135.1.2.2.2.1,r135.1.2.2.2.2,r129,(a117.2.2.2.2.2.2.2.2.2++[a122])))))))))))
def sN (U:Nat) (p0:qC) (p1:cT) (p2:Int) (p4:aQ) (c:Int×aQ×cJ×Int×a_) (a:Int×aQ×Int×Int×Int×Int×Int×Int×a_×aQ) (b:(Int×aQ×Int×Int×Int×Int×Int×Int×a_×aQ)->Option Bc):Option Bc:=
 if a.2.2.1<(List.length p4:Int)then(ck (0<=a.2.2.1∧a.2.2.1<(List.length p4:Int)) (Option.bind (dJ U c.2.1 p2 a.1 (at' p4 a.2.2.1)) fun d=>(zZ U p0 p1 p2 c a b (d))))else(sL  (a.2.1,a.2.2.2.1,a.2.2.2.2.1,a.2.2.2.2.2.1,a.2.2.2.2.2.2.1,a.2.2.2.2.2.2.2.1,a.2.2.2.2.2.2.2.2.1,a.2.2.2.2.2.2.2.2.2))
def zX (U:Nat) (p0:qC) (p1:cT) (p2:Int) (p3:a_) (p4:aQ) (b:Int×aQ×cJ×Int×a_):Option Bc:=
 Option.bind (sH U p3) fun d=>(Option.bind (cU U ((((p0.1,p0.2.1,p0.2.2)),((((p0.1,p0.2.1,p0.2.2)),((p1.1,p1.2)),b.2.2.2.1,b.2.2.2.2)),b.2.2.1)) d) fun c=>(Option.bind (sY U (dC .u32 c b.1)) fun a=>(Option.bind (rR U d (dC .u32 c b.1) ((a.1,a.2.1,a.2.2.1,a.2.2.2.1,a.2.2.2.2))) fun e=>(ck ((List.length ([]:aQ):Int)+(List.length ([(dC .u32 c b.1)]):Int)<=1099511627) (bM (sN U p0 p1 p2 p4 b) U ((dC .u32 c b.1),(([]:aQ)++([(dC .u32 c b.1)])),(0:Int),a.1,a.2.1,a.2.2.1,a.2.2.2.1,a.2.2.2.2,d,([]:aQ)))))))
def wN (U:Nat) (p0:qC) (p1:cT) (p2:Int) (p3:a_) (p4:aQ) (a:cJ×Int×a_):Option Bc:=
 Option.bind (kL U ((p1.1,p1.2))) fun b=>(Option.bind (wZ U ((p1.1,p1.2))) fun c=>(zX U p0 p1 p2 p3 p4 (c,b,a.1,a.2.1,a.2.2)))
def wO (U:Nat) (p0:qC) (p1:cT) (p2:Int) (p3:a_) (p4:aQ) (a:yY):Option Bc:=
 Option.bind (eP U ((p0.1,p0.2.1,p0.2.2)) ((p1.1,p1.2))) fun b=>(wN U p0 p1 p2 p3 p4 (b,a.1,a.2))
def sM (U:Nat) (p0:qC) (p1:cT) (p2:Int) (p3:a_) (p4:aQ) (a:yY):Option Bc:=
 wO U p0 p1 p2 p3 p4 (a.1,a.2)
def wP (p1:cT) (a:Int×Int×a_) (b:(Int×Int×a_)->Option Bc) (c:a_):Option Bc:=
 b ((wI .i64 (a.1+(1:Int))),(max a.2.1 (at' p1.1 a.1)),c)
def pY (U:Nat) (p1:cT) (a:Int×Int×a_) (d:(Int×Int×a_)->Option Bc) (b:yY) (e:(Int×a_)->Option Bc):Option Bc:=
 if b.1<(List.length (at' p1.2 a.1):Int)then(ck (0<=b.1∧b.1<(List.length (at' p1.2 a.1):Int)) (ck (0<=a.1∧a.1<(List.length b.2:Int)) (Option.bind (fS U ((p1.1,p1.2)) ((at' (at' p1.2 a.1) b.1).1) a.1) fun c=>(ck ((List.length (at' b.2 a.1):Int)+(List.length ([c]):Int)<=1099511627) (ck (0<=a.1∧a.1<(List.length (List.set b.2 (Int.toNat a.1) ((at' b.2 a.1)++[c])):Int)) (e ((wI .i64 (b.1+(1:Int))),(List.set b.2 (Int.toNat a.1) ((at' b.2 a.1)++[c])))))))))else(wP p1 a d (b.2))
def lE (U:Nat) (p0:qC) (p1:cT) (p2:Int) (p3:a_) (p4:aQ) (a:Int×Int×a_) (b:(Int×Int×a_)->Option Bc):Option Bc:=
 if a.1<(List.length p1.2:Int)then(ck (0<=a.1∧a.1<(List.length p1.2:Int)) (ck (0<=a.1∧a.1<(List.length p1.1:Int)) (bM (pY U p1 a b) U ((0:Int),a.2.2))))else(sM U p0 p1 p2 p3 p4 (a.2.1,a.2.2))
def k_ (U:Nat) (p0:qC) (p1:cT) (p2:Int) (p3:a_) (p4:aQ):Option Bc:=
 Option.bind (w_ U ((p0.1,p0.2.1,p0.2.2)) ((p1.1,p1.2)) p2 p3 (List.length p4:Int)) fun a=>(if a≠(0:Int)then(some (((([]:aQ),([]:aQ),([]:a_),(((0:Int),(0:Int),(0:Int),(0:Int),(0:Int))))),a))else(ck (0<=(List.length p1.2:Int)∧(List.length p1.2:Int)<=1099511627) (bM (lE U p0 p1 p2 p3 p4) U ((0:Int),(0:Int),(List.replicate (Int.toNat (List.length p1.2:Int)) ([]:aQ))))))
theorem Hj:aO Tryz.prog 23:=Tryz.call23
theorem uY (U:Nat) {p0:qC} {p1:cT} {p2:Int} {p3:a_} {p4:aQ} (v0:Value)  (v1:Value)  (v2:Value)  (v3:Value)  (z4:jT)  (v5:Value)  (z6:oV)  (v7:Value) (r:(aQ×aQ×a_×(Int×Int×Int×Int×Int))×Int) (h:k_ U p0 p1 p2 p3 p4=some r):
  aV Tryz.prog 23 #[Value.agg #[vS (p0.1),v0,v1],Value.agg #[v2,v3],vI (p2),v5,v7] [Sl aJ v0 p0.2.1,Sl aF v1 p0.2.2,PF (Value.agg #[vS p0.1,v0,v1]),Sl bL v2 p1.1,S2 aW v3 z4 p1.2,S2 bL v5 z6 p3,Sl wV v7 p4,Gb 0 (cellsOf EK uB)] (fun x:Value×Value×Value×List Value=>Value.tuple #[Value.agg #[x.1,x.2.1,x.2.2.1,vI (r.1.2.2.2.1),vI (r.1.2.2.2.2.1),vI (r.1.2.2.2.2.2.1),vI (r.1.2.2.2.2.2.2.1),vU (r.1.2.2.2.2.2.2.2)],vI (r.2)]) (fun x l=>Ar nQ x.1 r.1.1::Ar nQ x.2.1 r.1.2.1::Ar c_.raw x.2.2.1 x.2.2.2::gU cE x.2.2.2 r.1.2.2.1::l) (fun _ l=>l):=by
 refine aV.of Tryz.func23 rfl Tryz.ntmps23 rfl fun c=>?_
 refine sqR<|aE (aG.box (cs:=[vS (p0.1),v0,v1]) rfl rfl) rfl fun b1=>aE (aG.box (cs:=[v2,v3]) rfl rfl) rfl fun b2=>aE (aG.alloc (cs:=DK) rfl rfl) rfl fun b3=>qkAsg rfl<|dtN<|aH<|sqR<|qkLdA 2 rfl<|qkLdA 1 rfl<|qkMove rfl<|qkMove rfl<|qkMove rfl<|qkLen (aC.fact 6 rfl) rfl<|bnE h fun r4 w5 h=>aE (aG.callQ XY (MK U v0 v1 v2 v3 z4 v5 z6 r4 w5) rfl (iJ [0,1,2,3,4,5] rfl)) rfl fun x6=>qkAsg rfl<|dtN<|sqR<|qkMove rfl<|qkNeq rfl<|dtN ?_
 refine eZ h rfl (fun h=>?_) fun h=>?_
 ·refine sqR ?_
  refine aB (yD (r:=Value.agg #[eG,eG,eG,vI (0:Int),vI (0:Int),vI (0:Int),vI (0:Int),vU (0:Int)]) (by intro w;simp[Instr.build,Instr.fill,bV,bQ,bK,bW,bX,bR,cC])) rfl ?_
  refine qkMove rfl<|aY 0 (vs:=DK) rfl rfl rfl rfl rfl rfl<|qkAsg rfl<|dtN<|aN<|aI<|dV (dA nQ)<|dV (dA nQ)<|dV (dA c_.raw) (dV (gY cE) ?_)
  cases h
  exact dR ((eG),(eG),(eG),([]:dO)) rfl rfl (RV.cell 4 rfl rfl rfl rfl) (RV.tmp rfl) (aS.ix [2,3,1,0] rfl rfl) aA.nil
 refine cL<|sqR<|qkLdA 2 rfl<|qkLdA 1 rfl<|qkMove rfl<|AD (A:=Int×aQ×cJ×Int×a_) (B:=Nat×Value×Nat×Value×List Value×Value×List Value) (vs:=[Value.agg #[vS (p0.1),v0,v1],Value.agg #[v2,v3],vI (p2),Value.func (.func 51) #[] #[]]) (fun a20=>zX U p0 p1 p2 p3 p4 a20=some r) (fun a20 b21=>Value.agg #[vP b21.1,b21.2.1,vI (p2),vU (a20.1),Value.func (.func 51) #[] #[]]) (fun a20 b21=>[Ar nQ b21.2.1 a20.2.1,bS b21.1 [vS (p0.1),v0,v1,vP b21.2.2.1,b21.2.2.2.1] 134,Ar c_.raw b21.2.2.2.1 b21.2.2.2.2.1,gU bH b21.2.2.2.2.1 a20.2.2.1,bS b21.2.2.1 [vS (p0.1),v0,v1,v2,v3,vI (a20.2.2.2.1),b21.2.2.2.2.2.1] 176,Ar c_.raw b21.2.2.2.2.2.1 b21.2.2.2.2.2.2,gU cE b21.2.2.2.2.2.2 a20.2.2.2.2,bS b3 DK 64]) (fun a20 b21=>[Sl aJ v0 p0.2.1,Sl aF v1 p0.2.2,PF (Value.agg #[vS p0.1,v0,v1]),Sl bL v2 p1.1,S2 aW v3 z4 p1.2,S2 bL v5 z6 p3,Sl wV v7 p4,Gb 0 (cellsOf EK uB)]) (uC.fn (show aO Tryz.prog 50 from Tryz.call50) rfl) Tryz.func50 rfl Tryz.ntmps50 rfl rfl ?_ ?_
 ·refine sqR<|aE (aG.box (cs:=[vS (p0.1),v0,v1]) rfl rfl) rfl fun b153=>aE (aG.box (cs:=[v2,v3]) rfl rfl) rfl fun b154=>aE (aG.alloc (cs:=Zk) rfl rfl) rfl fun b155=>dtN<|aH ?_
  refine JR.start [0,0,3,0,15,0,0,95,0,511,1023] 9 mixedOrders (by decide +kernel) ?_
  refine JR.open (by exact rfl) ?_
  refine jkLdA 2 rfl<|jkLdA 1 rfl<|JQ (A:=cJ×Int×a_) (B:=Nat×Nat×Value×List Value×Value×List Value) (vs:=[Value.agg #[vS (p0.1),v0,v1],Value.agg #[v2,v3]]) (fun a165=>wN U p0 p1 p2 p3 p4 a165=some r) (fun a165 b166=>vP b166.1) (fun a165 b166=>[bS b166.1 [vS (p0.1),v0,v1,vP b166.2.1,b166.2.2.1] 134,Ar c_.raw b166.2.2.1 b166.2.2.2.1,gU bH b166.2.2.2.1 a165.1,bS b166.2.1 [vS (p0.1),v0,v1,v2,v3,vI (a165.2.1),b166.2.2.2.2.1] 176,Ar c_.raw b166.2.2.2.2.1 b166.2.2.2.2.2,gU cE b166.2.2.2.2.2 a165.2.2,bS b155 Zk 105,bS b154 [v2,v3] 28,bS b153 [vS (p0.1),v0,v1] 41,bS b3 DK 64]) (fun a165 b166=>[Sl aJ v0 p0.2.1,Sl aF v1 p0.2.2,PF (Value.agg #[vS p0.1,v0,v1]),Sl bL v2 p1.1,S2 aW v3 z4 p1.2,S2 bL v5 z6 p3,Sl wV v7 p4,Gb 0 (cellsOf EK uB)]) rfl rfl rfl (uC.fn (show aO Tryz.prog 45 from Tryz.call45) rfl) Tryz.func45 rfl Tryz.ntmps45 rfl rfl (fun _ _=>(jM [] rfl)) ?_ ?_
  ·refine sqR<|aE (aG.box (cs:=[vS (p0.1),v0,v1]) rfl rfl) rfl fun b175=>aE (aG.box (cs:=[v2,v3]) rfl rfl) rfl fun b176=>qkAsg rfl<|dtN<|aH ?_
   refine JR.start [0,0,0,6,0,0,62,127,255,511] 7 mixedOrders (by decide +kernel) ?_
   refine JR.open (by exact rfl) ?_
   refine jkLdA 1 rfl<|jkLdA 1 rfl<|jkLdA 0 rfl<|JQ (A:=yY) (B:=Nat×Value×List Value) (vs:=[Value.agg #[vS (p0.1),v0,v1],Value.agg #[v2,v3]]) (fun a182=>wO U p0 p1 p2 p3 p4 a182=some r) (fun a182 b183=>vP b183.1) (fun a182 b183=>[bS b183.1 [vS (p0.1),v0,v1,v2,v3,vI (a182.1),b183.2.1] 176,Ar c_.raw b183.2.1 b183.2.2,gU cE b183.2.2 a182.2,bS b176 [v2,v3] 28,bS b175 [vS (p0.1),v0,v1] 41,bS b155 Zk 105,bS b154 [v2,v3] 28,bS b153 [vS (p0.1),v0,v1] 41,bS b3 DK 64]) (fun a182 b183=>[Sl aJ v0 p0.2.1,Sl aF v1 p0.2.2,PF (Value.agg #[vS p0.1,v0,v1]),Sl bL v2 p1.1,S2 aW v3 z4 p1.2,S2 bL v5 z6 p3,Sl wV v7 p4,Gb 0 (cellsOf EK uB)]) rfl rfl rfl (uC.fn (show aO Tryz.prog 66 from Tryz.call66) rfl) Tryz.func66 rfl Tryz.ntmps66 rfl rfl (fun _ _=>(jM [([4],[])] rfl)) ?_ ?_
   ·refine sqR<|aE (aG.box (cs:=[vS (p0.1),v0,v1]) rfl rfl) rfl fun b189=>aE (aG.box (cs:=[v2,v3]) rfl rfl) rfl fun b190=>qkAsg rfl<|dtN<|aH ?_
    refine JR.start [0,0,0,4,12,28,63,127,255] 6 mixedOrders (by decide +kernel) ?_
    refine JR.open (by exact rfl) ?_
    refine jkLdA 1 rfl<|jkLdA 0 rfl<|jkFld rfl<|jkLd 0 rfl<|bD rfl .nil (lA 4 rfl) (iY rfl (aC.fact 0 rfl) rfl) aK.z<|ckE h fun j191 h=>JR.stp (oZ cE (Int.toNat (List.length p1.2:Int)))<|JR.loud rfl rfl rfl (nJ (e:=c_.raw) (eG) rfl rfl rfl rfl j191 rfl rfl rfl) rfl (fun u192=>(jM [([2],[]),([3],[])] rfl)) fun u192=>bF 6 rfl rfl<|bJ (Know.one (aC.sl (aP (i:=0) (j:=1) rfl rfl cW))) fun ho193=>?_
    refine aB (JV (r:=Value.agg #[vS (p0.1),v0,v1,v2,v3,vI (0:Int),u192]) rfl rfl rfl (by intro w;simp[Instr.build,Instr.fill,bV,bQ,bK,bW,bX,bR,cC,cY ho193])) rfl ?_
    refine aE (aG.box (cs:=[vS (p0.1),v0,v1,v2,v3,vI (0:Int),u192]) rfl rfl) rfl fun b194=>qkAsg rfl<|dtN<|aH<|midL (B:=dO) (fun a198=>sM U p0 p1 p2 p3 p4 a198=some r) (fun a198 b199=>[(5,vP b194)]) (fun a198 b199=>[bS b194 [vS (p0.1),v0,v1,v2,v3,vI (a198.1),u192] 176,Ar c_.raw u192 b199,gU cE b199 a198.2,bS b176 [v2,v3] 28,bS b175 [vS (p0.1),v0,v1] 41,bS b155 Zk 105,bS b154 [v2,v3] 28,bS b153 [vS (p0.1),v0,v1] 41,bS b3 DK 64]) ?_ ?_
    ·refine sqR<|qkFld rfl<|qkLd 3 rfl<|aB (iY rfl (aC.fact 4 rfl) rfl) rfl<|qkMove rfl<|dtN<|aR<|loopL (B:=dO) (lE U p0 p1 p2 p3 p4) (fun a205 b206=>[(3,vP b190),(5,vP b194),(19,v3),(20,vI (List.length p1.2:Int)),(21,vI (a205.1))]) (fun a205 b206=>[bS b194 [vS (p0.1),v0,v1,v2,v3,vI (a205.2.1),u192] 176,Ar c_.raw u192 b206,gU cE b206 a205.2.2,bS b190 [v2,v3] 28,bS b176 [v2,v3] 28,bS b175 [vS (p0.1),v0,v1] 41,bS b155 Zk 105,bS b154 [v2,v3] 28,bS b153 [vS (p0.1),v0,v1] 41,bS b3 DK 64]) ((0:Int),(0:Int),(List.replicate (Int.toNat (List.length p1.2:Int)) ([]:aQ))) (List.replicate (Int.toNat (List.length p1.2:Int)) (eG)) h SF (aS.ix [0,1,2,3,5,6,7,8,9,10] rfl rfl) ?_
     intro k207 a205 b206 h
     refine sqR<|qkLss rfl<|dtN<|aH ?_
     refine eZ h rfl (fun h=>?_) fun h=>?_
     ·refine cL<|aH<|midL (B:=dO) (fun a211=>wP p1 a205 (bM (lE U p0 p1 p2 p3 p4) k207) a211=some r) (fun a211 b212=>[(3,vP b190),(5,vP b194),(19,v3),(20,vI (List.length p1.2:Int)),(21,vI (a205.1))]) (fun a211 b212=>[bS b194 [vS (p0.1),v0,v1,v2,v3,vI (max a205.2.1 (at' p1.1 a205.1)),u192] 176,Ar c_.raw u192 b212,gU cE b212 a211,bS b190 [v2,v3] 28,bS b176 [v2,v3] 28,bS b175 [vS (p0.1),v0,v1] 41,bS b155 Zk 105,bS b154 [v2,v3] 28,bS b153 [vS (p0.1),v0,v1] 41,bS b3 DK 64]) ?_ ?_
      ·refine aR<|sqR<|qkMove rfl<|ckE h fun j213 h=>aB (cG rfl rfl (aC.fact 4 rfl) rfl rfl j213) rfl<|aB (cI rfl (aC.fact 4 rfl) rfl rfl j213) rfl<|qkAsg rfl<|qkAsg rfl<|dtN<|aH ?_
       refine JR.start [0,0,2,6,14,0,32,0,224,480,1022,2047,4095,8191] 11 mixedOrders (by decide +kernel) ?_
       refine JR.open (by exact rfl) ?_
       refine jkMove rfl<|jkMove rfl<|jqN rfl (bU rfl)<|jkFld rfl<|jkLd 0 rfl<|jkFld rfl<|jkLd 3 rfl<|jkMove rfl<|ckE h fun j214 h=>bD rfl .nil (lA 3 rfl) (bG rfl rfl (aC.fact 0 rfl) rfl rfl j214) aK.z<|bD rfl .nil (lA 3 rfl) (cK rfl (aC.fact 0 rfl) rfl rfl rfl fE j214) aK.z<|jqN rfl (Hc rfl rfl)<|bF 11 rfl rfl<|aB (bU rfl) rfl<|qkFld rfl<|fY 0 rfl rfl rfl rfl rfl rfl<|dtN<|sqR<|qkMove rfl<|aB (fM rfl (aC.el (aC.fact 4 rfl) j213.1 j213.2) rfl) rfl<|qkMove rfl<|dtN<|aR<|loopL (B:=dO) (pY U p1 a205 (bM (lE U p0 p1 p2 p3 p4) k207)) (fun a219 b220=>[(3,vP b190),(5,vP b194),(6,vI (a205.1)),(19,v3),(20,vI (List.length p1.2:Int)),(21,vI (a205.1)),(39,(at' z4 a205.1).1),(40,vI (List.length (at' p1.2 a205.1):Int)),(41,vI (a219.1))]) (fun a219 b220=>[bS b194 [vS (p0.1),v0,v1,v2,v3,vI (max a205.2.1 (at' p1.1 a205.1)),u192] 176,Ar c_.raw u192 b220,gU cE b220 a219.2,bS b190 [v2,v3] 28,bS b176 [v2,v3] 28,bS b175 [vS (p0.1),v0,v1] 41,bS b155 Zk 105,bS b154 [v2,v3] 28,bS b153 [vS (p0.1),v0,v1] 41,bS b3 DK 64]) ((0:Int),a205.2.2) (b206) h SF (aS.refl _) ?_
       intro k221 a219 b220 h
       refine sqR<|qkLss rfl<|dtN<|aH ?_
       refine eZ h rfl (fun h=>?_) fun h=>?_
       ·refine cL<|aH<|aR<|sqR<|ckE h fun j223 h=>aB (bG rfl rfl (aC.el (aC.fact 4 rfl) j213.1 j213.2) rfl rfl j223) rfl<|aB (gV (cs:=[vI ((at' (at' p1.2 a205.1) a219.1).1),vI ((at' (at' p1.2 a205.1) a219.1).2)]) rfl (aC.el (aC.fact 4 rfl) j213.1 j213.2) aU rfl rfl rfl rfl j223) rfl<|aE (aG.alloc (cs:=Oz) rfl rfl) rfl fun b224=>aY 0 (vs:=[vI ((at' (at' p1.2 a205.1) a219.1).1),vI ((at' (at' p1.2 a205.1) a219.1).2)]) rfl rfl rfl rfl rfl rfl<|dtN ?_
        refine JR.start [0,1,3,7,0,0,32,96,224,0,992,2016,0,0,8192,0,61440,126976,262112,524287,1048575] 19 mixedOrders (by decide +kernel) ?_
        refine JR.open (by exact rfl) ?_
        refine jkMove rfl<|jqN rfl (bU rfl)<|jkFld rfl<|jkLd 1 rfl<|jkMove rfl<|jkMove rfl<|jqN rfl (bU rfl)<|jkFld rfl<|jkLd 1 rfl<|jkMove rfl<|ckE h fun j225 h=>bN (bZ 3 rfl) fun hl226=>?_
        refine bD rfl (aS.cons 2 rfl .nil) .nil (eM 0 rfl rfl rfl rfl rfl j225.1 (by have q1:=j225.2;have q2:=hl226;(try simp only[List.length_set]at q1);(try simp only[List.length_set]at q2);(try simp only[List.length_set]);omega)) aK.z ?_
        refine bN (bZ 3 rfl) fun hl227=>bD rfl (aS.cons 2 rfl .nil) .nil (gZ 0 rfl rfl hl227 rfl rfl j225) aK.z<|jkLdA 4 rfl<|jkFld rfl<|jkLd 0 rfl<|jkMove rfl<|bnE h fun r228 w229 h=>JR.loud rfl rfl rfl (aG.callQ EU (oP U v2 v3 z4 r228 w229) rfl (iJ [3,4] rfl)) rfl (fun x230=>(jM [([2],[]),([2],[]),([1],[]),([1],[])] rfl)) fun x230=>JR.loud rfl rfl rfl (cR (e:=cE) ([r228]) [(0,vI (r228))] rfl rfl rfl rfl (pK (vI (r228)) rfl) rfl rfl rfl) rfl (fun u231=>(jM [([3],[]),([3],[]),([2],[]),([2],[])] rfl)) fun u231=>ckE h fun j233 h=>JR.loud rfl rfl rfl (kJ 4 cW rfl rfl rfl (aT (aC.res 0 rfl) cW) rfl rfl rfl rfl j225 j233 rfl) rfl (fun u232=>(jM [([2],[])] rfl)) fun u232=>bF 19 rfl rfl<|ckE h fun j234 h=>bJ (bZ 4 rfl) fun hl235=>?_
        refine aB (eM 3 rfl rfl rfl rfl rfl j234.1 (by have q1:=j234.2;have q2:=hl235;(try simp only[List.length_set]at q1);(try simp only[List.length_set]at q2);(try simp only[List.length_set]);omega)) rfl ?_
        refine bJ (qQ 4 (k:=a205.1) rfl ⟨j234.1,by first|exact j234.2|simpa using j234.2⟩) fun ho236=>?_
        refine iK 3 4 ⟨j234.1,by first|exact j234.2|simpa using j234.2⟩ rfl rfl rfl rfl rfl (by simp) ho236 rfl ?_
        refine eI<|inT<|aM<|qkAdd rfl<|qkMove rfl<|dtN ?_
        exact kN ((wI .i64 (a219.1+(1:Int))),(List.set a219.2 (Int.toNat a205.1) ((at' a219.2 a205.1)++[r228]))) (List.set b220 (Int.toNat a205.1) u232) h SF (aS.ix [2,3,4,5,6,7,8,9,10,11] rfl rfl) (aA.refl _ _)
       refine qP<|eL<|eL<|wU<|inT ?_
       exact iQ (a219.2) (b220) h SF rfl
      intro a211 b212 h
      unfold wP at h
      refine aM<|qkAdd rfl<|qkMove rfl<|dtN ?_
      exact Ah ((wI .i64 (a205.1+(1:Int))),(max a205.2.1 (at' p1.1 a205.1)),a211) (b212) h SF rfl
     refine gH ?_
     exact bO (a205.2.1,a205.2.2) (b206) h SF (aS.ix [0,1,2,4,5,6,7,8,9] rfl rfl) (aA.refl _ _)
    intro a198 b199 h
    unfold sM at h
    refine sqR<|qkMove rfl<|qkAsg rfl<|dtN<|aN ?_
    exact vL (a198.1,a198.2) (b194,u192,b199) h (.inl rfl) (FE.r1 rfl (RV.tmp rfl)) rfl (aS.refl _) (aA.refl _ _)
   intro a182 b183 h
   unfold wO at h
   refine bD rfl (aS.cons 4 rfl .nil) .nil (eF 0 rfl rfl rfl rfl) (aK.h (aS.ix [1] rfl rfl) .nil aK.z)<|bD rfl (aS.cons 3 rfl .nil) .nil (eF 0 rfl rfl rfl rfl) (aK.h (aS.ix [0] rfl rfl) .nil aK.z)<|bnE h fun r184 w185 h=>JR.loud rfl rfl rfl (aG.callQ Hl (rA U v0 v1 v2 v3 z4 r184 w185) rfl (iJ [0,1,2,3,4] rfl)) rfl (fun x186=>(jM [([6],[])] rfl)) fun x186=>bF 7 rfl rfl<|bJ (Know.one (aC.sl (aP (i:=0) (j:=1) rfl rfl aU))) fun ho187=>?_
   refine aB (JV (r:=Value.agg #[vS (p0.1),v0,v1,Value.pointer (some ⟨b183.1,0,none⟩),x186.1]) rfl rfl rfl (by intro w;simp[Instr.build,Instr.fill,bV,bQ,bK,bW,bX,bR,cC,cY ho187])) rfl ?_
   refine aE (aG.box (cs:=[vS (p0.1),v0,v1,vP b183.1,x186.1]) rfl rfl) rfl fun b188=>qkAsg rfl<|dtN<|aN ?_
   exact vL (r184,a182.1,a182.2) (b188,b183.1,x186.1,x186.2,b183.2.1,b183.2.2) h (.inl rfl) (FE.r1 rfl (RV.tmp rfl)) rfl (aS.ix [0,1,2,3,4,5,8,9,10,11] rfl rfl) (aA.refl _ _)
  intro a165 b166 h
  unfold wN at h
  refine bD rfl (aS.cons 7 rfl .nil) .nil (eF 0 rfl rfl rfl rfl) (aK.h (aS.ix [1] rfl rfl) .nil aK.z)<|bnE h fun r167 w168 h=>JR.loud rfl rfl rfl (aG.callQ Yh (Gk U v2 v3 z4 r167 w168) rfl (iJ [3,4] rfl)) rfl (fun x169=>(jM [] rfl)) fun x169=>jqN rfl (kT rfl)<|bD rfl (aS.cons 8 rfl .nil) .nil (eF 0 rfl rfl rfl rfl) (aK.h (aS.ix [7] rfl rfl) .nil (aK.h (aS.ix [1] rfl rfl) .nil aK.z))<|bnE h fun r170 w171 h=>JR.loud rfl rfl rfl (aG.callQ Yi (MJ U v2 v3 z4 r170 w171) rfl (iJ [3,4] rfl)) rfl (fun x172=>(jM [] rfl)) fun x172=>jqN rfl (kT rfl)<|bF 9 rfl rfl<|bJ (Know.one ((aT (aC.res 0 rfl) jP))) fun ho173=>?_
  refine aB (Y.bld5 (r:=Value.agg #[Value.pointer (some ⟨b166.1,0,none⟩),x169,vI (p2),vU (r170),Value.func (.func 51) #[] #[]]) rfl rfl rfl rfl rfl (by intro w;simp[Instr.build,Instr.fill,bV,bQ,bK,bW,bX,bR,cC,cY ho173])) rfl ?_
  refine bJ (Know.one ((aT (aC.res 0 rfl) jP))) fun ho174=>aY 7 (vs:=[vP b166.1,x169,vI (p2),vU (r170),Value.func (.func 51) #[] #[]]) rfl rfl (cB rfl (cB ho174 (cB rfl (cB rfl (cB rfl rfl))))) rfl rfl rfl<|dtN<|aN ?_
  exact vL (r170,r167,a165.1,a165.2.1,a165.2.2) (b166.1,x169,b166.2.1,b166.2.2.1,b166.2.2.2.1,b166.2.2.2.2.1,b166.2.2.2.2.2) h (.inl rfl) (FE.r1 rfl (RV.cell 7 rfl rfl rfl rfl)) rfl (aS.ix [0,1,2,3,4,5,6,10] rfl rfl) (aA.refl _ _)
 intro a20 b21 h
 refine qkMove rfl<|qkMove rfl<|AD (A:=PT) (B:=Value×Value×Value×List Value) (vs:=[Value.agg #[vP b21.1,b21.2.1,vI (p2),vU (a20.1),Value.func (.func 51) #[] #[]],v5,v7]) (fun a35=>zY  a35=some r) (fun a35 b36=>Value.tuple #[Value.agg #[b36.1,b36.2.1,b36.2.2.1,vI (a35.1),vI (a35.2.1),vI (a35.2.2.1),vI (a35.2.2.2.1),vU (a35.2.2.2.2.1)],vI (a35.2.2.2.2.2.1)]) (fun a35 b36=>[bS b3 DK 64,Ar nQ b36.1 a35.2.2.2.2.2.2.1,Ar nQ b36.2.1 a35.2.2.2.2.2.2.2.1,Ar c_.raw b36.2.2.1 b36.2.2.2,gU cE b36.2.2.2 a35.2.2.2.2.2.2.2.2]) (fun a35 b36=>[Sl aJ v0 p0.2.1,Sl aF v1 p0.2.2,PF (Value.agg #[vS p0.1,v0,v1]),Sl bL v2 p1.1,S2 aW v3 z4 p1.2,S2 bL v5 z6 p3,Sl wV v7 p4,Gb 0 (cellsOf EK uB)]) (uC.fn (show aO Tryz.prog 52 from Tryz.call52) rfl) Tryz.func52 rfl Tryz.ntmps52 rfl rfl ?_ ?_
 ·refine sqR<|aE (aG.box (cs:=[vP b21.1,b21.2.1,vI (p2),vU (a20.1),Value.func (.func 51) #[] #[]]) rfl rfl) rfl fun b40=>bJ (Know.one ((aC.fact 6 rfl))) fun ho42=>?_
  refine aE (aG.box (cs:=[v7]) rfl (by rw[cY ho42])) rfl fun b41=>?_
  refine aE (aG.alloc (cs:=DK) rfl rfl) rfl fun b43=>qkAsg rfl<|dtN<|sqR<|qkLdA 2 rfl<|qkMove rfl<|qkLd 1 rfl<|qkLen (aC.fact 6 rfl) rfl<|aB (vR (cs:=[.tmp 3,.tmp 5]) (vs:=[vP b40,vP b41]) rfl) rfl<|AD (A:=aQ×aQ×a_×Int×Int×Int×Int×Int×Int) (B:=Value×Value×Value×List Value) (vs:=[Value.agg #[vP b21.1,b21.2.1,vI (p2),vU (a20.1),Value.func (.func 51) #[] #[]],v5,vI (List.length p4:Int),Value.func (.func 75) #[] #[vP b40,vP b41]]) (fun a57=>wM  a57=some r) (fun a57 b58=>Value.tuple #[Value.agg #[b58.1,b58.2.1,b58.2.2.1,vI (a57.2.2.2.1),vI (a57.2.2.2.2.1),vI (a57.2.2.2.2.2.1),vI (a57.2.2.2.2.2.2.1),vU (a57.2.2.2.2.2.2.2.1)],vI (a57.2.2.2.2.2.2.2.2)]) (fun a57 b58=>[bS b43 DK 64,bS b3 DK 64,Ar nQ b58.1 a57.1,Ar nQ b58.2.1 a57.2.1,Ar c_.raw b58.2.2.1 b58.2.2.2,gU cE b58.2.2.2 a57.2.2.1]) (fun a57 b58=>[Sl aJ v0 p0.2.1,Sl aF v1 p0.2.2,PF (Value.agg #[vS p0.1,v0,v1]),Sl bL v2 p1.1,S2 aW v3 z4 p1.2,S2 bL v5 z6 p3,Sl wV v7 p4,Gb 0 (cellsOf EK uB)]) (uC.fn (show aO Tryz.prog 74 from Tryz.call74) rfl) Tryz.func74 rfl Tryz.ntmps74 rfl rfl ?_ ?_
  ·refine sqR<|aE (aG.box (cs:=[vP b21.1,b21.2.1,vI (p2),vU (a20.1),Value.func (.func 51) #[] #[]]) rfl rfl) rfl fun b62=>aE (aG.alloc (cs:=DK) rfl rfl) rfl fun b63=>qkAsg rfl<|dtN<|sqR<|aE (aG.alloc (cs:=DK) rfl rfl) rfl fun b64=>dtN<|sqR<|qkMove rfl<|bnE h fun r65 w66 h=>aE (aG.callQ OM (Dd U v5 z6 r65 w66) rfl (iJ [5] rfl)) rfl fun x67=>qkAsg rfl<|dtN<|aH ?_
   refine JR.start [0,1,0,7,0,16,63,127] 6 mixedOrders (by decide +kernel) ?_
   refine JR.open (by exact rfl) ?_
   refine jkFld rfl<|jkLd 4 rfl<|jkMove rfl<|bnE h fun r68 w69 h=>JR.loud rfl rfl rfl (aG.callQ NH (oO U b21.1 v0 v1 b21.2.2.1 v0 v1 v2 v3 z4 b21.2.2.2.2.2.1 (List.zip b21.2.2.2.2.2.2 a20.2.2.2.2) b21.2.2.2.1 (List.zip b21.2.2.2.2.1 a20.2.2.1) x67.1 (List.zip x67.2 r65) r68 w69) rfl (aA.cons (aC.res 9 rfl) (aA.cons (aC.fact 0 rfl) (aA.cons (aC.fact 1 rfl) (aA.cons (aC.res 12 rfl) (aA.cons (aC.fact 0 rfl) (aA.cons (aC.fact 1 rfl) (aA.cons (aC.fact 3 rfl) (aA.cons (aC.fact 4 rfl) (aA.cons (aP (i:=13) (j:=14) rfl rfl cW) (aA.cons (aP (i:=10) (j:=11) rfl rfl aU) (aA.cons (aP (i:=0) (j:=1) rfl rfl cW) .nil)))))))))))) rfl (fun x70=>(jM [] rfl)) fun x70=>jqN rfl (dD rfl rfl rfl rfl rfl)<|bD rfl (aS.cons 4 rfl .nil) .nil (d_ 0 rfl rfl rfl rfl rfl) (aK.h (aS.ix [4] rfl rfl) .nil aK.z)<|bF 6 rfl rfl<|qkAnd rfl<|qkAsg rfl<|dtN<|sqR<|qkMove rfl<|bnE h fun r71 w72 h=>aE (aG.callQ Vv (Gh U  r71 w72) rfl .nil) rfl fun x73=>aE (aG.alloc (cs:=Xr) rfl rfl) rfl fun b74=>aY 0 (vs:=[vI (r71.1),vI (r71.2.1),vI (r71.2.2.1),vI (r71.2.2.2.1),vU (r71.2.2.2.2)]) rfl rfl rfl rfl rfl rfl<|dtN<|sqR<|qkFld rfl<|qkLd 5 rfl<|qkMove rfl<|qkMove rfl<|qkLdA 0 rfl<|bnE h fun r75 w76 h=>aE (oY (vs:=[x67.1,vU (dC .u32 r68 a20.1),Value.agg #[vI (r71.1),vI (r71.2.1),vI (r71.2.2.1),vI (r71.2.2.2.1),vU (r71.2.2.2.2)]]) (cs:=[]) SH rfl (EC U x67.1 (List.zip x67.2 r65) r75 w76) rfl (aA.cons (aP (i:=1) (j:=2) rfl rfl cW) .nil) (fun _ _=>rfl)) rfl fun x77=>dtN<|sqR<|qkFld rfl<|qkLd 3 rfl<|qkMove rfl<|aE (cR (e:=nQ) ([(dC .u32 r68 a20.1)]) [(0,vU (dC .u32 r68 a20.1))] rfl rfl rfl rfl (pK (vU (dC .u32 r68 a20.1)) rfl) rfl rfl rfl) rfl fun u78=>dV (dA nQ)<|ckE h fun j80 h=>aE (fU 0 jP rfl rfl rfl (aT (aC.res 1 rfl) jP) rfl rfl rfl rfl j80 rfl) rfl fun u79=>qkFld rfl<|bJ (Know.one ((aT (aC.res 0 rfl) jP))) fun ho81=>fY 5 rfl rfl ho81 rfl rfl rfl<|dtN<|aH<|midL (B:=Value×List Value×Value×Value) (fun a94=>sL  a94=some r) (fun a94 b95=>[(1,b95.1),(8,vP b63),(10,vP b64),(12,vP b74)]) (fun a94 b95=>[Ar nQ b95.2.2.2 a94.1,bS b74 [vI (a94.2.1),vI (a94.2.2.1),vI (a94.2.2.2.1),vI (a94.2.2.2.2.1),vU (a94.2.2.2.2.2.1)] 62,Ar c_.raw b95.1 b95.2.1,gU cE b95.2.1 a94.2.2.2.2.2.2.1,bS b64 [b95.2.2.1,b95.2.2.2,eG,vI (0:Int),vI (0:Int),vI (0:Int),vI (0:Int),vU (0:Int)] 64,bS b63 DK 64,bS b43 DK 64,bS b3 DK 64,Ar nQ b95.2.2.1 a94.2.2.2.2.2.2.2]) ?_ ?_
   ·refine sqR<|qkMove rfl<|qkMove rfl<|dtN<|aR<|dV (dA nQ)<|loopL (B:=Value×List Value×Value×Value) (sN U p0 p1 p2 p4 a20) (fun a117 b118=>[(1,b118.1),(3,Value.func (.func 75) #[] #[vP b40,vP b41]),(4,vP b62),(8,vP b63),(10,vP b64),(11,vU (a117.1)),(12,vP b74),(39,vI (List.length p4:Int)),(40,vI (a117.2.2.1))]) (fun a117 b118=>[Ar nQ b118.2.2.2 a117.2.1,bS b74 [vI (a117.2.2.2.1),vI (a117.2.2.2.2.1),vI (a117.2.2.2.2.2.1),vI (a117.2.2.2.2.2.2.1),vU (a117.2.2.2.2.2.2.2.1)] 62,Ar c_.raw b118.1 b118.2.1,gU cE b118.2.1 a117.2.2.2.2.2.2.2.2.1,bS b64 [b118.2.2.1,b118.2.2.2,eG,vI (0:Int),vI (0:Int),vI (0:Int),vI (0:Int),vU (0:Int)] 64,bS b63 DK 64,bS b62 [vP b21.1,b21.2.1,vI (p2),vU (a20.1),Value.func (.func 51) #[] #[]] 105,bS b43 DK 64,bS b41 [v7] 25,bS b40 [vP b21.1,b21.2.1,vI (p2),vU (a20.1),Value.func (.func 51) #[] #[]] 105,Ar nQ b21.2.1 a20.2.1,bS b21.1 [vS (p0.1),v0,v1,vP b21.2.2.1,b21.2.2.2.1] 134,Ar c_.raw b21.2.2.2.1 b21.2.2.2.2.1,gU bH b21.2.2.2.2.1 a20.2.2.1,bS b21.2.2.1 [vS (p0.1),v0,v1,v2,v3,vI (a20.2.2.2.1),b21.2.2.2.2.2.1] 176,Ar c_.raw b21.2.2.2.2.2.1 b21.2.2.2.2.2.2,gU cE b21.2.2.2.2.2.2 a20.2.2.2.2,bS b3 DK 64,Ar nQ b118.2.2.1 a117.2.2.2.2.2.2.2.2.2]) ((dC .u32 r68 a20.1),(([]:aQ)++([(dC .u32 r68 a20.1)])),(0:Int),r71.1,r71.2.1,r71.2.2.1,r71.2.2.2.1,r71.2.2.2.2,r65,([]:aQ)) (x67.1,x67.2,(eG),u79) h SF (aS.ix [1,3,4,5,6,7,8,9,10,11,12,13,14,15,16,17,18,19,0] rfl rfl) ?_
    intro k119 a117 b118 h
    refine sqR<|qkLss rfl<|dtN<|aH ?_
    refine eZ h rfl (fun h=>?_) fun h=>?_
    ·refine cL<|aH<|aR<|sqR<|qkMove rfl<|qkAsg rfl<|dtN<|sqR<|qkMove rfl<|qkMove rfl<|qkMove rfl<|AD (A:=Int) (B:=Unit) (vs:=[vI (a117.2.2.1),vU (a117.1),vP b40,vP b41]) (fun a122=>zZ U p0 p1 p2 a20 a117 (bM (sN U p0 p1 p2 p4 a20) k119) a122=some r) (fun a122 b123=>Value.tuple #[vU (a122),vB (decide (a117.1≠(0:Int)))]) (fun a122 b123=>[Ar nQ b118.2.2.2 a117.2.1,bS b74 [vI (a117.2.2.2.1),vI (a117.2.2.2.2.1),vI (a117.2.2.2.2.2.1),vI (a117.2.2.2.2.2.2.1),vU (a117.2.2.2.2.2.2.2.1)] 62,Ar c_.raw b118.1 b118.2.1,gU cE b118.2.1 a117.2.2.2.2.2.2.2.2.1,bS b64 [b118.2.2.1,b118.2.2.2,eG,vI (0:Int),vI (0:Int),vI (0:Int),vI (0:Int),vU (0:Int)] 64,bS b63 DK 64,bS b62 [vP b21.1,b21.2.1,vI (p2),vU (a20.1),Value.func (.func 51) #[] #[]] 105,bS b43 DK 64,bS b41 [v7] 25,bS b40 [vP b21.1,b21.2.1,vI (p2),vU (a20.1),Value.func (.func 51) #[] #[]] 105,Ar nQ b21.2.1 a20.2.1,bS b21.1 [vS (p0.1),v0,v1,vP b21.2.2.1,b21.2.2.2.1] 134,Ar c_.raw b21.2.2.2.1 b21.2.2.2.2.1,gU bH b21.2.2.2.2.1 a20.2.2.1,bS b21.2.2.1 [vS (p0.1),v0,v1,v2,v3,vI (a20.2.2.2.1),b21.2.2.2.2.2.1] 176,Ar c_.raw b21.2.2.2.2.2.1 b21.2.2.2.2.2.2,gU cE b21.2.2.2.2.2.2 a20.2.2.2.2,bS b3 DK 64,Ar nQ b118.2.2.1 a117.2.2.2.2.2.2.2.2.2]) (fun a122 b123=>[Sl aJ v0 p0.2.1,Sl aF v1 p0.2.2,PF (Value.agg #[vS p0.1,v0,v1]),Sl bL v2 p1.1,S2 aW v3 z4 p1.2,S2 bL v5 z6 p3,Sl wV v7 p4,Gb 0 (cellsOf EK uB)]) (Qf (us:=[vI (a117.2.2.1),vU (a117.1)]) (cs:=[vP b40,vP b41]) (show aO Tryz.prog 75 from Tryz.call75) rfl rfl rfl) Tryz.func75 rfl Tryz.ntmps75 rfl rfl ?_ ?_
     ·refine sqR<|qkAsg rfl<|qkAsg rfl<|dtN<|aH ?_
      refine JR.start [0,1,0,4,0,0,0,96,224,511,0,1024,1023,8191] 13 mixedOrders (by decide +kernel) ?_
      refine JR.open (by exact rfl) ?_
      refine jkFld rfl<|jkLd 9 rfl<|jkFld rfl<|jkLd 9 rfl<|jkMove rfl<|jkLd 8 rfl<|jkMove rfl<|ckE h fun j149 h=>bD rfl .nil (lA 6 rfl) (bG rfl rfl (aC.fact 0 rfl) rfl rfl j149) aK.z<|bD rfl .nil (lA 6 rfl) (cK rfl (aC.fact 0 rfl) rfl rfl rfl AH j149) aK.z<|bnE h fun r150 w151 h=>JR.loud rfl rfl rfl (aG.callQ SL (uW U b21.2.1 r150 w151) rfl (aA.cons (aT (aC.res 10 rfl) jP) (iJ [7] rfl))) rfl (fun x152=>(jM [] rfl)) fun x152=>jqN rfl (kT rfl)<|jqN rfl (FK rfl rfl)<|jqN rfl (nX rfl)<|bF 13 rfl rfl<|qkAsg rfl<|dtN<|aN ?_
      exact vL (r150) () h (.inl rfl) (FE.r2 rfl (RV.tmp rfl) (RV.tmp rfl)) rfl (aS.refl _) (aA.refl _ _)
     intro a122 b123 h
     refine qkMove rfl<|qkExt rfl<|qkExt rfl<|qkAsg rfl<|qkAsg rfl<|dtN<|aH<|sqR<|qkMove rfl<|aB (Sj rfl) rfl<|dtN ?_
     refine eZ h rfl (fun h=>?_) fun h=>?_
     ·refine qP<|eL<|Vb rfl<|eL<|eL<|wU<|zC ?_
      exact bO (a117.2.1,a117.2.2.2.1,a117.2.2.2.2.1,a117.2.2.2.2.2.1,a117.2.2.2.2.2.2.1,a117.2.2.2.2.2.2.2.1,a117.2.2.2.2.2.2.2.2.1,a117.2.2.2.2.2.2.2.2.2) (b118.1,b118.2.1,b118.2.2.1,b118.2.2.2) h SF (aS.ix [0,1,2,3,4,5,7,17,18] rfl rfl) (aA.refl _ _)
     refine cL<|aH<|sqR<|qkFld rfl<|qkLd 6 rfl<|qkFld rfl<|qkLd 6 rfl<|qkMove rfl<|qkMove rfl<|bnE h fun r125 w126 h=>aE (aG.callQ ON (uV U b21.2.1 r125 w126) rfl (aA.cons (aT (aC.res 10 rfl) jP) (iJ [7] rfl))) rfl fun x127=>aB (o_ rfl) rfl<|dtN ?_
     refine zQ h rfl (fun _ h=>?_) fun _ h=>?_
     ·refine sqR ?_
      refine aB (yD (r:=Value.agg #[eG,eG,eG,vI (0:Int),vI (0:Int),vI (0:Int),vI (0:Int),vU (0:Int)]) (by intro w;simp[Instr.build,Instr.fill,bV,bQ,bK,bW,bX,bR,cC])) rfl ?_
      refine aY 5 (vs:=DK) rfl rfl rfl rfl rfl rfl<|qkAsg rfl<|dtN<|aN<|aI<|bT<|aI<|aI<|bT<|aI<|dV (dA nQ)<|dV (dA nQ)<|dV (dA c_.raw) (dV (gY cE) ?_)
      exact vL (([]:aQ),([]:aQ),([]:a_),(0:Int),(0:Int),(0:Int),(0:Int),(0:Int),(11:Int)) ((eG),(eG),(eG),([]:dO)) h (.inl rfl) (FE.r2 rfl (RV.cell 9 rfl rfl rfl rfl) (RV.tmp rfl)) rfl (aS.ix [11,21,2,3,1,0] rfl rfl) (aA.refl _ _)
     refine cL<|sqR<|qkFld rfl<|qkLd 6 rfl<|qkMove rfl<|qkMove rfl<|bnE h fun r129 w130 h=>aE (aG.callQ Vw (BW U b21.1 v0 v1 b21.2.2.1 v0 v1 v2 v3 z4 b21.2.2.2.2.2.1 (List.zip b21.2.2.2.2.2.2 a20.2.2.2.2) b21.2.2.2.1 (List.zip b21.2.2.2.2.1 a20.2.2.1) b118.1 (List.zip b118.2.1 a117.2.2.2.2.2.2.2.2.1) r129 w130) rfl (aA.cons (aC.res 11 rfl) (aA.cons (aC.fact 0 rfl) (aA.cons (aC.fact 1 rfl) (aA.cons (aC.res 14 rfl) (aA.cons (aC.fact 0 rfl) (aA.cons (aC.fact 1 rfl) (aA.cons (aC.fact 3 rfl) (aA.cons (aC.fact 4 rfl) (aA.cons (aP (i:=15) (j:=16) rfl rfl cW) (aA.cons (aP (i:=12) (j:=13) rfl rfl aU) (aA.cons (aP (i:=2) (j:=3) rfl rfl cW) .nil)))))))))))) rfl fun x131=>qkAsg rfl<|dtN<|aH ?_
     refine JR.start [0,1,0,7,0,16,63,127] 6 mixedOrders (by decide +kernel) ?_
     refine JR.open (by exact rfl) ?_
     refine jkFld rfl<|jkLd 8 rfl<|jkMove rfl<|bnE h fun r132 w133 h=>JR.loud rfl rfl rfl (aG.callQ NH (oO U b21.1 v0 v1 b21.2.2.1 v0 v1 v2 v3 z4 b21.2.2.2.2.2.1 (List.zip b21.2.2.2.2.2.2 a20.2.2.2.2) b21.2.2.2.1 (List.zip b21.2.2.2.2.1 a20.2.2.1) x131.1 (List.zip x131.2 r129) r132 w133) rfl (aA.cons (aC.res 13 rfl) (aA.cons (aC.fact 0 rfl) (aA.cons (aC.fact 1 rfl) (aA.cons (aC.res 16 rfl) (aA.cons (aC.fact 0 rfl) (aA.cons (aC.fact 1 rfl) (aA.cons (aC.fact 3 rfl) (aA.cons (aC.fact 4 rfl) (aA.cons (aP (i:=17) (j:=18) rfl rfl cW) (aA.cons (aP (i:=14) (j:=15) rfl rfl aU) (aA.cons (aP (i:=0) (j:=1) rfl rfl cW) .nil)))))))))))) rfl (fun x134=>(jM [] rfl)) fun x134=>jqN rfl (dD rfl rfl rfl rfl rfl)<|bD rfl (aS.cons 8 rfl .nil) .nil (d_ 0 rfl rfl rfl rfl rfl) (aK.h (aS.ix [8] rfl rfl) .nil aK.z)<|bF 6 rfl rfl<|qkAnd rfl<|qkAsg rfl<|dtN<|sqR<|qkLdA 3 rfl<|qkMove rfl<|qkMove rfl<|bnE h fun r135 w136 h=>aE (aG.callQ Vx (ID U  r135 w136) rfl .nil) rfl fun x137=>qkMove rfl<|qkExt rfl<|qkExt rfl<|aY 3 (vs:=[vI (r135.1.1),vI (r135.1.2.1),vI (r135.1.2.2.1),vI (r135.1.2.2.2.1),vU (r135.1.2.2.2.2)]) rfl rfl rfl rfl rfl rfl<|dtN<|sqR<|qkFld rfl<|qkLd 8 rfl<|qkMove rfl<|qkMove rfl<|qkLdA 3 rfl<|bnE h fun r138 w139 h=>aE (oY (vs:=[x131.1,vU (dC .u32 r132 a20.1),Value.agg #[vI (r135.1.1),vI (r135.1.2.1),vI (r135.1.2.2.1),vI (r135.1.2.2.2.1),vU (r135.1.2.2.2.2)]]) (cs:=[]) SH rfl (EC U x131.1 (List.zip x131.2 r129) r138 w139) rfl (aA.cons (aP (i:=0) (j:=1) rfl rfl cW) .nil) (fun _ _=>rfl)) rfl fun x140=>dtN<|sqR<|qkFld rfl<|qkLd 6 rfl<|qkMove rfl<|aE (cR (e:=nQ) ([a122]) [(0,vU (a122))] rfl rfl rfl rfl (pK (vU (a122)) rfl) rfl rfl rfl) rfl fun u141=>ckE h fun j143 h=>aE (fU 21 jP rfl rfl rfl (aT (aC.res 0 rfl) jP) rfl rfl rfl rfl j143 rfl) rfl fun u142=>qkFld rfl<|bJ (Know.one ((aT (aC.res 21 rfl) jP))) fun ho144=>fY 7 rfl rfl ho144 rfl rfl rfl<|dtN<|aM<|qkFld rfl<|qkLd 7 rfl<|qkMove rfl<|aE (cR (e:=nQ) ([(dC .u32 r132 a20.1)]) [(0,vU (dC .u32 r132 a20.1))] rfl rfl rfl rfl (pK (vU (dC .u32 r132 a20.1)) rfl) rfl rfl rfl) rfl fun u145=>ckE h fun j147 h=>aE (fU 4 jP rfl rfl rfl (aT (aC.res 0 rfl) jP) rfl rfl rfl rfl j147 rfl) rfl fun u146=>qkFld rfl<|bJ (Know.one ((aT (aC.res 4 rfl) jP))) fun ho148=>fY 8 rfl rfl ho148 rfl rfl rfl<|eI<|inT<|aM<|qkAdd rfl<|qkMove rfl<|dtN ?_
     exact kN ((dC .u32 r132 a20.1),(a117.2.1++([(dC .u32 r132 a20.1)])),(wI .i64 (a117.2.2.1+(1:Int))),r135.1.1,r135.1.2.1,r135.1.2.2.1,r135.1.2.2.2.1,r135.1.2.2.2.2,r129,(a117.2.2.2.2.2.2.2.2.2++[a122])) (x131.1,x131.2,u142,u146) h SF (aS.ix [4,5,2,3,8,9,10,11,12,13,14,15,16,17,18,19,20,21,22] rfl rfl) (aA.refl _ _)
    refine gH ?_
    exact bO (a117.2.1,a117.2.2.2.1,a117.2.2.2.2.1,a117.2.2.2.2.2.1,a117.2.2.2.2.2.2.1,a117.2.2.2.2.2.2.2.1,a117.2.2.2.2.2.2.2.2.1,a117.2.2.2.2.2.2.2.2.2) (b118.1,b118.2.1,b118.2.2.1,b118.2.2.2) h SF (aS.ix [0,1,2,3,4,5,7,17,18] rfl rfl) (aA.refl _ _)
   intro a94 b95 h
   unfold sL at h
   refine aH ?_
   refine JR.start [0,0,1,5,15,31] 4 mixedOrders (by decide +kernel) ?_
   refine JR.open (by exact rfl) ?_
   refine jkMove rfl<|jkLdA 1 rfl<|jkFld rfl<|bN (Know.one (aC.sl (aP (i:=2) (j:=3) rfl rfl cW))) fun ho97=>pH rfl rfl rfl (Ld 4 rfl rfl ho97 rfl rfl rfl) (fun x96=>(jM [([1],[])] rfl)) fun x96=>bF 4 rfl rfl<|qkFld rfl<|JN (GY 4 (us:=[vI (a94.2.1),vI (a94.2.2.1),vI (a94.2.2.2.1),vI (a94.2.2.2.2.1),vU (a94.2.2.2.2.2.1)]) rfl rfl rfl rfl rfl rfl rfl rfl rfl) fun x98=>dtN<|sqR<|qkLdA 4 rfl<|bJ (Know.one ((aT (aC.res 8 rfl) jP))) fun ho99=>bJ (Know.one ((aT (aC.res 0 rfl) jP))) fun ho100=>bJ (Know.one (aC.sl (aP (i:=2) (j:=3) rfl rfl cW))) fun ho101=>aY 5 (vs:=[b95.2.2.1,b95.2.2.2,b95.1,vI (a94.2.1),vI (a94.2.2.1),vI (a94.2.2.2.1),vI (a94.2.2.2.2.1),vU (a94.2.2.2.2.2.1)]) rfl rfl (cB ho99 (cB ho100 (cB ho101 (cB rfl (cB rfl (cB rfl (cB rfl (cB rfl rfl)))))))) rfl rfl rfl<|qkAsg rfl<|dtN<|aN ?_
   exact vL (a94.2.2.2.2.2.2.2,a94.1,a94.2.2.2.2.2.2.1,a94.2.1,a94.2.2.1,a94.2.2.2.1,a94.2.2.2.2.1,a94.2.2.2.2.2.1,(0:Int)) (b95.2.2.1,b95.2.2.2,b95.1,b95.2.1) h (.inl rfl) (FE.r2 rfl (RV.cell 5 rfl rfl rfl rfl) (RV.tmp rfl)) rfl (aS.ix [6,7,8,0,2,3] rfl rfl) (aA.refl _ _)
  intro a57 b58 h
  unfold wM at h
  refine qkExt rfl<|qkExt rfl<|bJ (Know.one ((aT (aC.res 2 rfl) jP))) fun ho59=>bJ (Know.one ((aT (aC.res 3 rfl) jP))) fun ho60=>bJ (Know.one (aC.sl (aP (i:=4) (j:=5) rfl rfl cW))) fun ho61=>aY 0 (vs:=[b58.1,b58.2.1,b58.2.2.1,vI (a57.2.2.2.1),vI (a57.2.2.2.2.1),vI (a57.2.2.2.2.2.1),vI (a57.2.2.2.2.2.2.1),vU (a57.2.2.2.2.2.2.2.1)]) rfl rfl (cB ho59 (cB ho60 (cB ho61 (cB rfl (cB rfl (cB rfl (cB rfl (cB rfl rfl)))))))) rfl rfl rfl<|qkAsg rfl<|dtN<|aN ?_
  exact vL (a57.2.2.2.1,a57.2.2.2.2.1,a57.2.2.2.2.2.1,a57.2.2.2.2.2.2.1,a57.2.2.2.2.2.2.2.1,a57.2.2.2.2.2.2.2.2,a57.1,a57.2.1,a57.2.2.1) (b58.1,b58.2.1,b58.2.2.1,b58.2.2.2) h (.inl rfl) (FE.r2 rfl (RV.cell 0 rfl rfl rfl rfl) (RV.tmp rfl)) rfl (aS.ix [1,2,3,4,5] rfl rfl) (aA.refl _ _)
 intro a35 b36 h
 unfold zY at h
 refine qkExt rfl<|qkExt rfl<|bJ (Know.one ((aT (aC.res 1 rfl) jP))) fun ho37=>bJ (Know.one ((aT (aC.res 2 rfl) jP))) fun ho38=>bJ (Know.one (aC.sl (aP (i:=3) (j:=4) rfl rfl cW))) fun ho39=>aY 0 (vs:=[b36.1,b36.2.1,b36.2.2.1,vI (a35.1),vI (a35.2.1),vI (a35.2.2.1),vI (a35.2.2.2.1),vU (a35.2.2.2.2.1)]) rfl rfl (cB ho37 (cB ho38 (cB ho39 (cB rfl (cB rfl (cB rfl (cB rfl (cB rfl rfl)))))))) rfl rfl rfl<|qkAsg rfl<|dtN<|aN ?_
 cases h
 exact dR (b36.1,b36.2.1,b36.2.2.1,b36.2.2.2) rfl rfl (RV.cell 0 rfl rfl rfl rfl) (RV.tmp rfl) (aS.ix [1,2,3,4] rfl rfl) aA.nil
end
end Go.Proofs.YtpenklncfhiloaaGreatDoor
end
section
namespace Go.Proofs.YtpenklncfhiloaaGreatDoor
open Go Go.Sx
section
theorem Rk {g:GR} (hV:VG g) (p:xP) (kind:Int) (c:a_) (ws:aQ):
  bM (lE 1000 p g kind c ws) 1000 ((0:Int),(0:Int),(List.replicate (Int.toNat (List.length g.2:Int)) ([]:aQ)))=sM 1000 p g kind c ws (iF g g.2.length,eO g):=by
 have h24:=hV.n24
 have hlen:=hV.len
 let f:Nat->aQ:=fun v=>(List.range (row g v).length).map (Hi g v)
 let Q:Nat->a_:=fun k=>(List.range k).map f++List.replicate (g.2.length - k) []
 have hQ:∀k,k<=g.2.length->(Q k).length=g.2.length:=fun k hk=>by simp[Q];omega
 rw[show List.replicate (Int.toNat (List.length g.2:Int)) ([]:aQ)=Q 0 by simp[Q]]
 refine dM (step:=lE 1000 p g kind c ws) g.2.length (fun k=>((k:Int),iF g k,Q k)) (fun k ag hk=> ?_) (fun ag=> ?_) 1000 (by omega)
 ·have hdeg:=(hV.node k hk).deg
  have hq:k<(Q k).length:=by rw[hQ k (by omega)];exact hk
  unfold lE
  dsimp only
  rw[if_pos (by omega),cQ (by omega),cQ (by omega)]
  let Rw:Nat->aQ:=fun j=>(List.range j).map (Hi g k)
  have e0:Q k=(Q k).set k (Rw 0):=by
   have:at' (Q k) (k:Int)=Rw 0:=by
    rw[iZ hq];simp[Q,Rw]
   rw[<-this]
   exact(Dy (Q k) (k:Int) (by simpa using hq) (by omega)).symm
  rw[show(Q k)=(Q k).set k (Rw 0)from e0]
  have hgen:∀A:a_,A.length=g.2.length->bM (pY 1000 g ((k:Int),iF g k,(Q k).set k (Rw 0)) ag) 1000 ((0:Int),A.set k (Rw 0))=ag (((k+1:Nat):Int),iF g (k+1),A.set k (f k)):=by
   intro A hA
   refine dM (step:=pY 1000 g ((k:Int),iF g k,(Q k).set k (Rw 0)) ag) (K:=ag (((k+1:Nat):Int),iF g (k+1),A.set k (f k))) (row g k).length (fun j=>((j:Int),A.set k (Rw j))) (fun j ag2 hj=> ?_) (fun ag2=> ?_) 1000 (by omega)
   ·obtain⟨u,hu,hue⟩:=hV.to hk hj
    have hdu:=(hV.node u hu).deg
    have a1:at' (A.set k (Rw j)) (k:Int)=Rw j:=by rw[uD _ _ _ _ (by omega),if_pos rfl]
    have hRl:(Rw j).length=j:=by simp[Rw]
    unfold pY
    dsimp only
    rw[if_pos (show(j:Int)<((row g k).length:Int) by omega),cQ (show 0<=(j:Int)∧(j:Int)<((row g k).length:Int) by omega),cQ (by simp only[List.length_set];omega),show at' (at' g.2 (k:Int)) (j:Int)=fX (row g k) j from rfl,hue,aZ (show fS 1000 _ (u:Int) (k:Int)=_ from Av g u (k:Int) hu (by omega)),a1,cQ (by rw[hRl];simp;omega),cQ (by simp only[List.length_set];omega),dY (by omega),Int.toNat_natCast,List.set_set]
    have:Rw j++[sD (row g u) (k:Int)]=Rw (j+1):=by
     simp only[Rw];rw[List.range_succ,List.map_append,List.map_singleton,Hi,hue,Int.toNat_natCast]
    rw[this]
   ·unfold pY wP
    dsimp only
    rw[if_neg (show¬((row g k).length:Int)<((row g k).length:Int)from Int.lt_irrefl _),dY (by omega)]
    rfl
  have:=hgen (Q k) (hQ k (by omega))
  rw[pX f [] g.2.length k hk]at this
  exact this
 ·unfold lE
  dsimp only
  rw[if_neg (by omega)]
  simp[Q,eO,f]
def gO (g:GR):Nat:=2^g.2.length - 1
theorem Vp {g:GR} (b:VG g):gO g<4294967296:=by
 have a:=b.n24
 have:(2:Nat)^g.2.length<=2^24:=Nat.pow_le_pow_right (by omega) a
 unfold gO;omega
section
variable {p:xP} {g:GR} {R:List RL}
theorem HD (hV:VG g) (hp:yC g p.2.1) (hz:p.2.2.map vW=CL R) (hR:wC p.2.1.length R=true) {kind:Int} (hk1:1<=kind) (hk4:kind<=4) {c0:List (List Int)} (hc0:IA g c0 p.2.1) {ws:List Int} (hws:ws.length<=900) (hw:∀k:Nat,k<ws.length->∃m:Nat,at' ws (k:Int)=(m:Int)∧m<4294967296)
  (P:Nat->List (List Int)->List Nat->CT->Prop) (h0:P 0 c0 [] (0,0,0,0,dC .u32 ((vC (bY p g) R (gO g) c0:Nat):Int) 16777215))
  (hstep:∀k c ch cnt t cnt' err,k<ws.length->sF g p.2.1.length c->P k c ch cnt->vC (bY p g) R (gO g) c≠0->t≠0->(∀i,t.testBit i=true->(vC (bY p g) R (gO g) c).testBit i=true)->(kind<=2->∀v u,t.testBit v=true->t.testBit u=true->¬Iw g v u)->(kind=4->t=vC (bY p g) R (gO g) c)->(∃net,kL 1000 g=some net∧dJ 1000 net kind ((vC (bY p g) R (gO g) c:Nat):Int) (at' ws (k:Int))=some (t:Int))->
   lB 1000 cnt (t:Int) ((vC (bY p g) R (gO g) (nG (bY p g) p.2.1 R c t):Nat):Int)=some (cnt',err)->P (k+1) (nG (bY p g) p.2.1 R c t) (ch++[t]) cnt'):
  ∃k c ch cnt ens,k_ 1000 p g kind c0 ws=some ((BK ch,ens,c,cnt),0)∧P k c ch cnt∧sF g p.2.1.length c∧k<=ws.length∧ch.length=k∧ens.length=k+1∧at' ens (k:Int)=((vC (bY p g) R (gO g) c:Nat):Int)∧(k=ws.length∨vC (bY p g) R (gO g) c=0):=by
 have h24:=hV.n24
 have hvl:=hp.len
 let S:=bY p g
 have hVS:VG S.2.1:=hV
 obtain⟨net,hnet,hN⟩:=YV hV
 have hcheck:w_ 1000 p g kind c0 (ws.length:Int)=some 0:=by
  unfold w_
  rw[aZ (show lX 1000 _ _ c0=_ from LP hV hp hc0),if_neg (by decide)]
  have:uN 1000 kind=some true:=by
   unfold uN pI
   rw[if_pos hk1,decide_eq_true hk4]
  rw[aZ this,if_neg (by decide),if_neg (by omega)]
 unfold k_
 rw[aZ (show w_ 1000 _ _ kind c0 _=_ from hcheck),if_neg (by decide),cQ (by omega),Rk hV p kind c0 ws]
 unfold sM wO
 rw[aZ (show eP 1000 _ _=_ from Ca hV hp)]
 unfold wN
 rw[aZ (show kL 1000 _=_ from hnet),aZ (show wZ 1000 _=some ((gO g:Nat):Int)from XE hV)]
 have hen:∀c,sF g p.2.1.length c->cU 1000 (p,(p,g,iF g g.2.length,eO g),tS g p.2.1) c=some ((VX S R c:Nat):Int):=fun c hc=>Hx hV hc hz hR (by simp[tS])
 have hand:∀c,dC .u32 ((VX S R c:Nat):Int) ((gO g:Nat):Int)=((vC S R (gO g) c:Nat):Int):=fun c=>DY (Yx hVS R c) (Vp hV)
 unfold zX
 dsimp only
 rw[aZ (OY c0 (by rw[hc0.len];omega) (fun v hv=>by rw[hc0.row v (by rw[<-hc0.len];exact hv)];omega)),aZ (show cU 1000 _ c0=_ from hen c0 hc0.shape),hand,aZ (show sY 1000 _=some (0,0,0,0,dC .u32 ((vC S R (gO g) c0:Nat):Int) 16777215)from rfl),aZ (show rR 1000 _ _ _=some ()from rfl),cQ (by simp),List.nil_append]
 let A20:Int×List Int×(List (List (Int×Int)))×Int×List (List Int):=(((gO g:Nat):Int),net,tS g p.2.1,iF g g.2.length,eO g)
 have fin:∀k c ch cnt ens,P k c ch cnt->sF g p.2.1.length c->k<=ws.length->ch.length=k->ens.length=k+1->at' ens (k:Int)=((vC S R (gO g) c:Nat):Int)->(k=ws.length∨vC S R (gO g) c=0)->
   OK (fun r:(List Int×List Int×List (List Int)×CT)×Int=>∃k c ch cnt ens,r=((BK ch,ens,c,cnt),0)∧P k c ch cnt∧sF g p.2.1.length c∧k<=ws.length∧ch.length=k∧ens.length=k+1∧at' ens (k:Int)=((vC S R (gO g) c:Nat):Int)∧(k=ws.length∨vC S R (gO g) c=0)) (sL (ens,cnt.1,cnt.2.1,cnt.2.2.1,cnt.2.2.2.1,cnt.2.2.2.2,c,BK ch)):=
  fun k c ch cnt ens a1 a2 a3 a4 a5 a6 a7=>⟨_,rfl,k,c,ch,cnt,ens,rfl,a1,a2,a3,a4,a5,a6,a7⟩
 have key:=Cv (step:=sN 1000 p g kind ws A20) (Q:=fun r:(List Int×List Int×List (List Int)×CT)×Int=>∃k c ch cnt ens,r=((BK ch,ens,c,cnt),0)∧P k c ch cnt∧sF g p.2.1.length c∧k<=ws.length∧ch.length=k∧ens.length=k+1∧at' ens (k:Int)=((vC S R (gO g) c:Nat):Int)∧(k=ws.length∨vC S R (gO g) c=0))
  (fun x=>∃(k:Nat) (c:List (List Int)) (ch:List Nat) (cnt:CT) (ens:List Int),x=(((vC S R (gO g) c:Nat):Int),ens,(k:Int),cnt.1,cnt.2.1,cnt.2.2.1,cnt.2.2.2.1,cnt.2.2.2.2,c,BK ch)∧P k c ch cnt∧sF g p.2.1.length c∧k<=ws.length∧ch.length=k∧ens.length=k+1∧at' ens (k:Int)=((vC S R (gO g) c:Nat):Int)) (fun x=>ws.length - x.2.2.1.toNat) (fun x ag hI hrec=>by
  obtain⟨k,c,ch,cnt,ens,rfl,b1,b2,b3,b4,b5,b6⟩:=hI
  unfold sN
  dsimp only
  by_cases hlt:k<ws.length
  rotate_left
  ·rw[if_neg (by omega)]
   exact fin k c ch cnt ens b1 b2 b3 b4 b5 b6 (.inl (by omega))
  obtain⟨w,hwe,hw32⟩:=hw k hlt
  have hin:RF g (vC S R (gO g) c):=Yy S R (gO g) c
  obtain⟨t,ht,hsub,hne⟩:=Of hV hN hk1 hk4 hin hw32
  rw[if_pos (by omega),cQ (by omega),hwe,aZ (show dJ 1000 net kind _ _=_ from ht)]
  unfold zZ
  dsimp only
  by_cases he0:vC S R (gO g) c=0
  ·rw[if_pos (by omega)]
   exact fin k c ch cnt ens b1 b2 b3 b4 b5 b6 (.inr he0)
  obtain⟨ht0,hperm,hk2,hk4'⟩:=hne he0
  have ht32:t<4294967296:=by have:=RF.lt hV (fun i hi=>hin i (hsub i hi));omega
  rw[if_neg (by omega),aZ (show eX 1000 net kind _ _=_ from hperm),if_neg (by decide)]
  have hst:iB 1000 (p,(p,g,iF g g.2.length,eO g),tS g p.2.1) c (t:Int)=some (nG S p.2.1 R c t):=WM (gr:=iF g g.2.length) hV hp b2 hz hR ht32 (fun v hv=>((AO S R (gO g) c v).1 (hsub v hv)).2.1)
  have hsh:sF g p.2.1.length (nG S p.2.1 R c t):=b2.step
  obtain⟨⟨cnt',err⟩,hadd⟩:=Sq cnt ht32 ((vC S R (gO g) (nG S p.2.1 R c t):Nat):Int)
  rw[aZ (show iB 1000 _ c (t:Int)=_ from hst),aZ (show cU 1000 _ _=_ from hen _ hsh),hand,aZ (show lB 1000 _ (t:Int) _=_ from hadd),aZ (show rR 1000 _ _ _=some ()from rfl),cQ (by simp[BK];omega),cQ (by simp;omega),dY (by omega)]
  refine hrec _ ⟨k+1,nG S p.2.1 R c t,ch++[t],cnt',ens++[((vC S R (gO g) (nG S p.2.1 R c t):Nat):Int)],by simp[BK],hstep k c ch cnt t cnt' err hlt b2 b1 he0 ht0 hsub hk2 hk4' ⟨net,hnet,by rw[hwe];exact ht⟩ hadd,hsh,by omega,by simp[b4],by simp[b5],?_⟩ (by dsimp only;omega)
  exact J_ (pre:=ens) (rest:=[]) (by simp) b5) 1000 (((vC S R (gO g) c0:Nat):Int),[((vC S R (gO g) c0:Nat):Int)],(0:Int),0,0,0,0,dC .u32 ((vC S R (gO g) c0:Nat):Int) 16777215,c0,[])
  ⟨0,c0,[],(0,0,0,0,dC .u32 ((vC S R (gO g) c0:Nat):Int) 16777215),[((vC S R (gO g) c0:Nat):Int)],rfl,h0,hc0.shape,by omega,rfl,rfl,rfl⟩ (by dsimp only;omega)
 obtain⟨r,hr,k,c,ch,cnt,ens,rfl,hrest⟩:=key
 exact⟨k,c,ch,cnt,ens,hr,hrest⟩
end
end
section
theorem WL (p b:xP) (g:GR) (a:List EG) (R:List RL) (c:a_) (t:Nat):nG (bY p g) a R c t=nG (bY b g) a R c t:=rfl
theorem Pd (p b:xP) (g:GR) (R:List RL) (a:Nat) (c:a_):vC (bY p g) R a c=vC (bY b g) R a c:=rfl
noncomputable def nxt (g:GR) (kind:Int) (en:Nat) (w:Int):Nat:=(((kL 1000 g).bind fun a=>dJ 1000 a kind (en:Int) w).getD 0).toNat
noncomputable def Br (p:xP) (a:List EG) (R:List RL) (g:GR) (kind:Int) (ws:aQ) (b:a_):Nat->a_
 |0=>b
 |k+1=>nG (bY p g) a R (Br p a R g kind ws b k) (nxt g kind (vC (bY p g) R (gO g) (Br p a R g kind ws b k)) (at' ws (k:Int)))
theorem Oj (p b:xP) (a:List EG) (R:List RL) (g:GR) (kind:Int) (ws:aQ) (c:a_) (k:Nat):Br p a R g kind ws c k=Br b a R g kind ws c k:=by
 induction k with
 |zero=>rfl
 |succ k d=>
  rw[Br,Br,d,WL p b,Pd p b]
theorem NM {p:xP} {g:GR} {R:List RL} (hV:VG g) (hp:yC g p.2.1) (hz:p.2.2.map vW=CL R) (hR:wC p.2.1.length R=true) {kind:Int} (hk1:1<=kind) (hk4:kind<=4) {c0:a_} (hc0:IA g c0 p.2.1) {ws:aQ} (hws:ws.length<=900) (hw:∀k:Nat,k<ws.length->∃m:Nat,at' ws (k:Int)=(m:Int)∧m<4294967296)
  (P:Nat->a_->gJ->Prop) (h0:P 0 c0 [])
  (hstep:∀k c ch t,k<ws.length->sF g p.2.1.length c->P k c ch->vC (bY p g) R (gO g) c≠0->t≠0->(∀i,t.testBit i=true->(vC (bY p g) R (gO g) c).testBit i=true)->(kind<=2->∀v u,t.testBit v=true->t.testBit u=true->¬Iw g v u)->P (k+1) (nG (bY p g) p.2.1 R c t) (ch++[t])):
  ∃k c ch cnt ens,k_ 1000 p g kind c0 ws=some ((BK ch,ens,c,cnt),0)∧P k c ch∧sF g p.2.1.length c∧k<=ws.length∧ch.length=k∧ens.length=k+1∧at' ens (k:Int)=((vC (bY p g) R (gO g) c:Nat):Int)∧(k=ws.length∨vC (bY p g) R (gO g) c=0)∧c=Br p p.2.1 R g kind ws c0 k∧∀j,j<k->vC (bY p g) R (gO g) (Br p p.2.1 R g kind ws c0 j)≠0:=by
 obtain⟨k,c,ch,cnt,ens,h1,⟨h2,h2c,h2e⟩,h3,h4,h5,h6,h7,h8⟩:=HD hV hp hz hR hk1 hk4 hc0 hws hw (fun k c ch _=>P k c ch∧c=Br p p.2.1 R g kind ws c0 k∧∀j,j<k->vC (bY p g) R (gO g) (Br p p.2.1 R g kind ws c0 j)≠0) ⟨h0,rfl,fun j hj=>by omega⟩
  (fun k c ch cnt t cnt' err hk hsh hI hne ht0 hsub hind _ hres _=>by
   obtain⟨a,rfl,b⟩:=hI
   obtain⟨net,hn,hr⟩:=hres
   refine⟨hstep k _ ch t hk hsh a hne ht0 hsub hind,?_,fun j hj=> ?_⟩
   ·have:nxt g kind (vC (bY p g) R (gO g) (Br p p.2.1 R g kind ws c0 k)) (at' ws (k:Int))=t:=by
     unfold nxt
     rw[aZ hn,hr];simp
    rw[Br,this]
   ·by_cases e:j<k
    ·exact b j e
    ·obtain rfl:j=k:=by omega
     exact hne)
 exact⟨k,c,ch,cnt,ens,h1,h2,h3,h4,h5,h6,h7,h8,h2c,h2e⟩
theorem exZ (D:Jx):∃z:List rU,z.map vW=D:=by
 refine⟨D.map fun d=>(ByteArray.mk #[],(.bool true,d.1),(.bool true,d.2.map fun s=>(s.1,(.bool true,s.2)))),?_⟩
 rw[List.map_map]
 conv=>rhs;rw[<-List.map_id D]
 refine List.map_congr_left fun d _=> ?_
 show(d.1,(d.2.map fun s=>(s.1,((.bool true:Value),s.2))).map fun s=>(s.1,s.2.2))=d
 rw[List.map_map]
 exact Prod.ext rfl (by
  conv=>rhs;rw[<-List.map_id d.2]
  rfl)
theorem Uq {p b:xP} {g:GR} {R:List RL} {a:List EG} {kind:Int} {ws:aQ} {h:a_} {k d:Nat} {c i:a_}
  (t:k<=ws.length) (o:k=ws.length∨vC (bY p g) R (gO g) c=0) (hc:c=Br p a R g kind ws h k) (r:∀j,j<k->vC (bY p g) R (gO g) (Br p a R g kind ws h j)≠0)
  (s:d<=ws.length) (l:d=ws.length∨vC (bY b g) R (gO g) i=0) (f:i=Br b a R g kind ws h d) (m:∀j,j<d->vC (bY b g) R (gO g) (Br b a R g kind ws h j)≠0):c=i:=by
 have n:k=d:=by
  rcases Nat.lt_trichotomy k d with q|q|q
  ·have:=m k q
   rw[Oj b p,<-hc,Pd b p]at this
   rcases o with e|e
   ·omega
   ·exact absurd e this
  ·exact q
  ·have:=r d q
   rw[Oj p b,<-f,Pd p b]at this
   rcases l with e|e
   ·omega
   ·exact absurd e this
 subst n
 rw[hc,f,Oj p b]
end
end Go.Proofs.YtpenklncfhiloaaGreatDoor
end
section
namespace Go.Proofs.YtpenklncfhiloaaGreatDoor
open Go.Sx
def tM  (a:aQ):Option aQ:=
 some (a)
def pS (c:aQ×Int) (b:(aQ×Int)->Option aQ) (a:aQ):Option aQ:=
 b (a,(wI .i64 (c.2+(1:Int))))
def mU (p0:aQ) (p1:Int) (a:aQ×Int) (b:(aQ×Int)->Option aQ):Option aQ:=
 if a.2<p1 then(if(List.length p0:Int)=(0:Int)then(ck ((List.length a.1:Int)+(List.length ([(4294967295:Int)]):Int)<=1099511627) (pS a b (a.1++([(4294967295:Int)]))))else(ck ((List.length p0:Int)≠0) (ck (0<=(Int.tmod a.2 (List.length p0:Int))∧(Int.tmod a.2 (List.length p0:Int))<(List.length p0:Int)) (ck ((List.length p0:Int)≠0) (ck ((24:Int)≠0) (ck (0<=(wI .u64 (Int.tmod (wI .i64 (Int.tdiv a.2 (List.length p0:Int))) (24:Int)))) (ck (0<=(wI .u64 ((24:Int) - (wI .u64 (Int.tmod (wI .i64 (Int.tdiv a.2 (List.length p0:Int))) (24:Int)))))) (ck ((List.length a.1:Int)+(List.length ([(dC .u32 (EH .u32 (xF .u32 (dC .u32 (at' p0 (Int.tmod a.2 (List.length p0:Int))) (16777215:Int)) (wI .u64 (Int.tmod (wI .i64 (Int.tdiv a.2 (List.length p0:Int))) (24:Int)))) (oU .u32 (dC .u32 (at' p0 (Int.tmod a.2 (List.length p0:Int))) (16777215:Int)) (wI .u64 ((24:Int) - (wI .u64 (Int.tmod (wI .i64 (Int.tdiv a.2 (List.length p0:Int))) (24:Int))))))) (16777215:Int))]):Int)<=1099511627) (pS a b (a.1++([(dC .u32 (EH .u32 (xF .u32 (dC .u32 (at' p0 (Int.tmod a.2 (List.length p0:Int))) (16777215:Int)) (wI .u64 (Int.tmod (wI .i64 (Int.tdiv a.2 (List.length p0:Int))) (24:Int)))) (oU .u32 (dC .u32 (at' p0 (Int.tmod a.2 (List.length p0:Int))) (16777215:Int)) (wI .u64 ((24:Int) - (wI .u64 (Int.tmod (wI .i64 (Int.tdiv a.2 (List.length p0:Int))) (24:Int))))))) (16777215:Int))])))))))))))else(tM  (a.1))
def kA (U:Nat) (p0:aQ) (p1:Int):Option aQ:=
 bM (mU p0 p1) U (([]:aQ),(0:Int))
theorem Dn:aO Tryz.prog 19:=Tryz.call19
theorem mA (U:Nat) {p0:aQ} {p1:Int} (v0:Value) (r:aQ) (h:kA U p0 p1=some r):
  aV Tryz.prog 19 #[v0,vI (p1)] [Sl wV v0 p0] (fun x:Value=>x) (fun x l=>Ar nQ x r::l) (fun _ l=>l):=by
 refine aV.of Tryz.func19 rfl Tryz.ntmps19 rfl fun c=>?_
 unfold kA at h
 refine sqR<|qkAsg rfl<|dtN<|sqR<|qkAsg rfl<|dtN<|aH<|midL (B:=Value) (fun a3=>tM  a3=some r) (fun a3 b4=>[(5,b4)]) (fun a3 b4=>[Ar nQ b4 a3]) ?_ ?_
 ·refine sqR<|qkAsg rfl<|dtN<|aR<|dV (dA nQ)<|loopL (B:=Value) (mU p0 p1) (fun a9 b10=>[(0,v0),(1,vI (p1)),(5,b10),(6,vI (a9.2))]) (fun a9 b10=>[Ar nQ b10 a9.1]) (([]:aQ),(0:Int)) (eG) h SF (aS.refl _) ?_
  intro k11 a9 b10 h
  refine aH<|sqR<|qkMove rfl<|qkMove rfl<|qkLss rfl<|dtN ?_
  refine eZ h rfl (fun h=>?_) fun h=>?_
  ·refine cL<|aH<|midL (B:=Value) (fun a15=>pS a9 (bM (mU p0 p1) k11) a15=some r) (fun a15 b16=>[(0,v0),(1,vI (p1)),(5,b16),(6,vI (a9.2))]) (fun a15 b16=>[Ar nQ b16 a15]) ?_ ?_
   ·refine aR<|aH<|sqR<|qkMove rfl<|qkLen (aC.fact 0 rfl) rfl<|qkEql rfl<|dtN ?_
    refine eZ h rfl (fun h=>?_) fun h=>?_
    ·refine sqR<|qkMove rfl<|aE (cR (e:=nQ) ([(4294967295:Int)]) [(0,vU (4294967295:Int))] rfl rfl rfl rfl (pK (vU (4294967295:Int)) rfl) rfl rfl rfl) rfl fun u18=>ckE h fun j20 h=>aE (fU 1 jP rfl rfl rfl (aT (aC.res 0 rfl) jP) rfl rfl rfl rfl j20 rfl) rfl fun u19=>qkAsg rfl<|dtN<|qP<|eL<|wU<|zC ?_
     exact bO (a9.1++([(4294967295:Int)])) (u19) h SF (aS.ix [1] rfl rfl) (aA.refl _ _)
    refine cL<|aH ?_
    refine JR.start [0,0,0,4,14,31,63,0,0,256,896,1920,3968,127,16383] 14 mixedOrders (by decide +kernel) ?_
    refine JR.open (by exact rfl) ?_
    refine jkMove rfl<|jkMove rfl<|jkMove rfl<|bD rfl .nil (lA 0 rfl) (fM rfl (aC.fact 0 rfl) rfl) aK.z<|ckE h fun j21 h=>jqN rfl (LA rfl rfl j21)<|ckE h fun j22 h=>bD rfl .nil (lA 0 rfl) (bG rfl rfl (aC.fact 0 rfl) rfl rfl j22) aK.z<|bD rfl .nil (lA 0 rfl) (cK rfl (aC.fact 0 rfl) rfl rfl rfl AH j22) aK.z<|jkMove rfl<|jkMove rfl<|bD rfl .nil (lA 0 rfl) (fM rfl (aC.fact 0 rfl) rfl) aK.z<|ckE h fun j23 h=>jqN rfl (Sk rfl rfl j23)<|ckE h fun j24 h=>jqN rfl (LA rfl rfl j24)<|jqN rfl (EN rfl rfl rfl)<|jqN rfl (nX rfl)<|bF 14 rfl rfl<|qkAsg rfl<|dtN<|sqR<|qkMove rfl<|qkAnd rfl<|qkAsg rfl<|dtN<|aM<|qkMove rfl<|qkMove rfl<|qkMove rfl<|ckE h fun j25 h=>aB (FL rfl rfl j25) rfl<|qkMove rfl<|qkMove rfl<|aB (pD rfl rfl) rfl<|ckE h fun j26 h=>aB (He rfl rfl j26) rfl<|aB (Nz rfl rfl) rfl<|qkAnd rfl<|aE (cR (e:=nQ) ([(dC .u32 (EH .u32 (xF .u32 (dC .u32 (at' p0 (Int.tmod a9.2 (List.length p0:Int))) (16777215:Int)) (wI .u64 (Int.tmod (wI .i64 (Int.tdiv a9.2 (List.length p0:Int))) (24:Int)))) (oU .u32 (dC .u32 (at' p0 (Int.tmod a9.2 (List.length p0:Int))) (16777215:Int)) (wI .u64 ((24:Int) - (wI .u64 (Int.tmod (wI .i64 (Int.tdiv a9.2 (List.length p0:Int))) (24:Int))))))) (16777215:Int))]) [(0,vU (dC .u32 (EH .u32 (xF .u32 (dC .u32 (at' p0 (Int.tmod a9.2 (List.length p0:Int))) (16777215:Int)) (wI .u64 (Int.tmod (wI .i64 (Int.tdiv a9.2 (List.length p0:Int))) (24:Int)))) (oU .u32 (dC .u32 (at' p0 (Int.tmod a9.2 (List.length p0:Int))) (16777215:Int)) (wI .u64 ((24:Int) - (wI .u64 (Int.tmod (wI .i64 (Int.tdiv a9.2 (List.length p0:Int))) (24:Int))))))) (16777215:Int)))] rfl rfl rfl rfl (pK (vU (dC .u32 (EH .u32 (xF .u32 (dC .u32 (at' p0 (Int.tmod a9.2 (List.length p0:Int))) (16777215:Int)) (wI .u64 (Int.tmod (wI .i64 (Int.tdiv a9.2 (List.length p0:Int))) (24:Int)))) (oU .u32 (dC .u32 (at' p0 (Int.tmod a9.2 (List.length p0:Int))) (16777215:Int)) (wI .u64 ((24:Int) - (wI .u64 (Int.tmod (wI .i64 (Int.tdiv a9.2 (List.length p0:Int))) (24:Int))))))) (16777215:Int))) rfl) rfl rfl rfl) rfl fun u27=>ckE h fun j29 h=>aE (fU 1 jP rfl rfl rfl (aT (aC.res 0 rfl) jP) rfl rfl rfl rfl j29 rfl) rfl fun u28=>qkAsg rfl<|eI<|inT ?_
    exact bO (a9.1++([(dC .u32 (EH .u32 (xF .u32 (dC .u32 (at' p0 (Int.tmod a9.2 (List.length p0:Int))) (16777215:Int)) (wI .u64 (Int.tmod (wI .i64 (Int.tdiv a9.2 (List.length p0:Int))) (24:Int)))) (oU .u32 (dC .u32 (at' p0 (Int.tmod a9.2 (List.length p0:Int))) (16777215:Int)) (wI .u64 ((24:Int) - (wI .u64 (Int.tmod (wI .i64 (Int.tdiv a9.2 (List.length p0:Int))) (24:Int))))))) (16777215:Int))])) (u28) h SF (aS.ix [1] rfl rfl) (aA.refl _ _)
   intro a15 b16 h
   unfold pS at h
   refine aM<|qkMove rfl<|qkAdd rfl<|qkAsg rfl<|dtN ?_
   exact Ah (a15,(wI .i64 (a9.2+(1:Int)))) (b16) h SF rfl
  refine gH ?_
  exact iQ (a9.1) (b10) h SF rfl
 intro a3 b4 h
 unfold tM at h
 refine sqR<|qkMove rfl<|qkAsg rfl<|dtN<|aN ?_
 cases h
 exact gE (b4) rfl rfl (RV.tmp rfl) (aS.refl _) aA.nil
end Go.Proofs.YtpenklncfhiloaaGreatDoor
end
section
namespace Go.Proofs.YtpenklncfhiloaaGreatDoor
open Go Go.Sx
section
theorem M_ (x:Int):0<=wI .u64 x:=by
 rw[Dh]
 have:IntKind.u64.wrap x=x%18446744073709551616:=rfl
 rw[this];omega
theorem JD (l:aQ) {n:Nat} (y:n<=900):∃ws,kA 1000 l (n:Int)=some ws∧ws.length=n∧∀k:Nat,k<ws.length->∃m:Nat,at' ws (k:Int)=(m:Int)∧m<4294967296:=by
 unfold kA
 obtain⟨⟨ws,i⟩,⟨c,b,d⟩,t⟩:=yK (step:=mU l (n:Int)) (K:=fun z=>some z.1) n
  (fun k z=>z.2=(k:Int)∧z.1.length=k∧∀j:Nat,j<k->∃m:Nat,at' z.1 (j:Int)=(m:Int)∧m<4294967296) (fun k z q v h=>by
  obtain⟨ws,i⟩:=z
  obtain⟨c,b,d⟩:=h
  dsimp only at c b d
  subst c
  have a:∀m:Nat,m<4294967296->∀j:Nat,j<k+1->∃p:Nat,at' (ws++[(m:Int)]) (j:Int)=(p:Int)∧p<4294967296:=fun m o j u=>by
   rw[KF ws _ (by omega)]
   by_cases e:j<ws.length
   ·rw[if_pos e];exact d j (by omega)
   ·rw[if_neg e];exact⟨m,rfl,o⟩
  have f:∀m:Nat,(List.length ws:Int)+(List.length [(m:Int)]:Int)<=1099511627:=fun m=>by simp;omega
  unfold mU pS
  dsimp only
  rw[if_pos (by omega),dY (by omega)]
  by_cases x:l.length=0
  ·rw[if_pos (by omega),cQ (show(List.length ws:Int)+(List.length [(4294967295:Int)]:Int)<=1099511627 from f 4294967295)]
   exact⟨_,⟨rfl,by simp[b],a 4294967295 (by omega)⟩,rfl⟩
  ·have r:Int.tmod (k:Int) (l.length:Int)=((k%l.length:Nat):Int):=rfl
   have w:k%l.length<l.length:=Nat.mod_lt _ (by omega)
   rw[if_neg (by omega),cQ (by omega),cQ (by rw[r];omega),cQ (by omega),cQ (by decide),cQ (M_ _),cQ (M_ _)]
   have s:∀X:Int,∃m:Nat,dC .u32 X (16777215:Int)=(m:Int)∧m<4294967296:=fun X=>⟨_,Gu _ _,Nat.lt_of_le_of_lt Nat.and_le_left (GZ _)⟩
   obtain⟨m,o,g⟩:=s (EH .u32 (xF .u32 (dC .u32 (at' l (Int.tmod (k:Int) (l.length:Int))) (16777215:Int)) (wI .u64 (Int.tmod (wI .i64 (Int.tdiv (k:Int) (l.length:Int))) (24:Int)))) (oU .u32 (dC .u32 (at' l (Int.tmod (k:Int) (l.length:Int))) (16777215:Int)) (wI .u64 ((24:Int) - (wI .u64 (Int.tmod (wI .i64 (Int.tdiv (k:Int) (l.length:Int))) (24:Int)))))))
   rw[o,cQ (f m)]
   exact⟨_,⟨rfl,by simp[b],a m g⟩,rfl⟩) (fun z q h=>by
  obtain⟨ws,i⟩:=z
  obtain⟨c,b,d⟩:=h
  dsimp only at c
  subst c
  unfold mU tM
  dsimp only
  rw[if_neg (by omega)]) 1000 (([]:aQ),(0:Int)) ⟨rfl,rfl,fun j u=>by omega⟩ (by omega)
 exact⟨ws,t,b,fun k v=>d k (by dsimp only at b;omega)⟩

def xG (ch:gJ) (v:Nat):Nat:=ch.countP fun t=>t.testBit v
theorem IV (ch:gJ) (t v:Nat):xG (ch++[t]) v=xG ch v+if t.testBit v=true then 1 else 0:=by
 unfold xG
 rw[List.countP_append]
 cases h:t.testBit v<;>simp[h]
def UX (f:Nat->Nat):Nat->Nat
 |0=>0
 |n+1=>UX f n+f n
theorem Uw {f:Nat->Nat}:∀{n:Nat},(∀v,v<n->f v<=1)->UX f n<=n
 |0,_=>Nat.le_refl 0
 |n+1,h=>by
  have:=Uw (n:=n) fun v a=>h v (by omega)
  have:=h n (by omega)
  simp only[UX];omega
theorem ML {f h:Nat->Nat}:∀{n:Nat},(∀v,v<n->f v<=h v)->UX f n<=UX h n
 |0,_=>Nat.le_refl 0
 |n+1,k=>by
  have:=ML (n:=n) fun v a=>k v (by omega)
  have:=k n (by omega)
  simp only[UX];omega
theorem Ux {f h:Nat->Nat}:∀{n:Nat} {u:Nat},(∀v,v<n->f v<=h v)->u<n->f u<h u->UX f n<UX h n
 |0,u,_,hu,_=>absurd hu (Nat.not_lt_zero u)
 | n + 1, u, k, hu, hl => by
  simp only[UX]
  by_cases e:u=n
  ·subst e
   have:=ML (n:=u) fun v a=>k v (by omega)
   omega
  ·have:=Ux (n:=n) (u:=u) (fun v a=>k v (by omega)) (by omega) hl
   have:=k n (by omega)
   omega
def CK (c:a_) (v:Nat):Int:=at' (at' c (v:Int)) 0
def xY (g:GR) (c:a_) (v i:Nat):Int:=at' (at' c (fX (row g v) i).1) 0
theorem tF {g:GR} {c:a_} {v i u:Nat} (h:(fX (row g v) i).1=(u:Int)):xY g c v i=CK c u:=by unfold xY CK;rw[h]
end
section
def guC:E:= .ag 21 (.bi 35 (.lf 12 0) (.lf 5 0))
def vaC:E:= .ag 27 (.lf 12 0)
def RC:List RL:=[(guC,[(0,vaC)])]
theorem KA:wC 1 RC=true:=by decide +kernel
theorem Zx (g:GR) (v:Nat):lo g (at' eY ((0:Nat):Int)) v=0:=rfl
theorem Zu (g:GR) (v:Nat):hi g (at' eY ((0:Nat):Int)) v=(g.2.length:Int):=by
 show(0:Int)+1*(g.2.length:Int)+0*iF g g.1.length=_
 omega
theorem MY {g:GR} (c:VG g):yC g eY:=by
 have b:=c.n24
 refine⟨by decide,PR,fun x a=> ?_,fun x a _=> ?_⟩
 ·obtain rfl:x=0:=by simp[eY]at a;exact a
  exact .inl rfl
 ·obtain rfl:x=0:=by simp[eY]at a;exact a
  rw[Zx,Zu];omega
def vD (g:GR) (c:a_) (v:Nat):Prop:=∃i,i<(row g v).length∧xY g c v i=CK c v
section
variable {p:xP} {g:GR} {c:List (List Int)} {v:Nat}
theorem YH:xN (bY p g) c v guC=LE (((List.range (row g v).length).map fun q=>LE (decide (xY g c v q=CK c v))).any nz):=rfl
theorem Zm:xN (bY p g) c v vaC=((Dw ((List.range (row g v).length).map fun q=>xY g c v q):Nat):Int):=rfl
theorem Wj:xN (bY p g) c v guC≠0↔vD g c v:=by
 rw[YH]
 unfold vD
 cases h:((List.range (row g v).length).map fun q=>LE (decide (xY g c v q=CK c v))).any nz with
 |false=>
  simp only[LE,Bool.false_eq_true,if_false,ne_eq,not_true_eq_false,false_iff]
  rintro⟨i,a,b⟩
  have:=List.any_eq_false.1 h (LE (decide (xY g c v i=CK c v))) (List.mem_map.2 ⟨i,List.mem_range.2 a,rfl⟩)
  rw[b]at this
  simp[LE,nz]at this
 |true=>
  refine iff_of_true (by simp[LE]) ?_
  obtain⟨x,f,d⟩:=List.any_eq_true.1 h
  obtain⟨i,a,rfl⟩:=List.mem_map.1 f
  refine⟨i,List.mem_range.1 a,?_⟩
  by_cases e:xY g c v i=CK c v
  ·exact e
  ·simp[LE,nz,e]at d
theorem wB:0<=uU (bY p g) RC c v↔vD g c v:=by
 rw[<-Wj (p:=p)]
 constructor
 ·intro h
  obtain⟨i,h1,h2,h3⟩:=(Er (bY p g) RC c v).resolve_left (fun e=>by omega)
  obtain rfl:i=0:=by simp[RC]at h2;exact h2
  exact h3
 ·intro h
  rcases Er (bY p g) RC c v with e|⟨i,h1,_⟩
  ·exact absurd (Oi.1 e 0 (by simp[RC])) h
  ·omega
theorem HY (h:vD g c v):uU (bY p g) RC c v=0:=by
 obtain⟨i,h1,h2,_⟩:=(Er (bY p g) RC c v).resolve_left (fun e=>by have:=(wB (p:=p)).2 h;omega)
 obtain rfl:i=0:=by simp[RC]at h2;exact h2
 exact h1
theorem Px (g:GR) (c:List (List Int)) (v:Nat):Dw ((List.range (row g v).length).map fun q=>xY g c v q)<=(row g v).length:=by
 have:=(Aq ((List.range (row g v).length).map fun q=>xY g c v q)).2.2
 simpa using this
theorem Xj (f:VG g) (h:v<g.2.length) (j:(at' c (v:Int)).length=1):at' (BO (bY p g) eY RC c v 0) 0=((Dw ((List.range (row g v).length).map fun q=>xY g c v q):Nat):Int):=by
 have i:=Px g c v
 have a:=(f.node v h).deg
 have e:BO (bY p g) eY RC c v 0=(at' c (v:Int)).set 0 (EX 1 (BD g eY v 0) (xN (bY p g) c v vaC)):=rfl
 have d:BD g eY v 0=(0,(g.2.length:Int)):=by unfold BD;rw[Zx,Zu]
 rw[e,d,Zm]
 have b:EX 1 (0,(g.2.length:Int)) ((Dw ((List.range (row g v).length).map fun q=>xY g c v q):Nat):Int)=((Dw ((List.range (row g v).length).map fun q=>xY g c v q):Nat):Int):=by
  unfold EX;rw[if_pos ⟨by dsimp only;omega,by dsimp only;omega⟩]
 rw[b]
 have:=uD (at' c (v:Int)) 0 0 ((Dw ((List.range (row g v).length).map fun q=>xY g c v q):Nat):Int) (by omega)
 rw[if_pos rfl]at this
 exact this
end
structure Qg (g:GR) (lv:Nat) (k:Nat) (c:List (List Int)) (ch:List Nat):Prop where
 r:IA g c eY
 one:∀v,v<g.2.length->xG ch v<=1
 done:∀v,v<g.2.length->1<=xG ch v->lv.testBit v=true∧¬vD g c v
 sum:k<=UX (xG ch) g.2.length
 sets:∀t∈ch,t<4294967296
theorem Xm {p:xP} {g:GR} (hV:VG g) {lv k t:Nat} {c:List (List Int)} {ch:List Nat} (hI:Qg g lv k c ch) (ht0:t≠0) (hsub:∀i,t.testBit i=true->(vC (bY p g) RC lv c).testBit i=true) (hind:∀v u,t.testBit v=true->t.testBit u=true->¬Iw g v u):Qg g lv (k+1) (nG (bY p g) eY RC c t) (ch++[t]):=by
 have hcl:=hI.r.len
 have hin:∀v,t.testBit v=true->v<g.2.length∧vD g c v∧lv.testBit v=true:=fun v hv=>by
  obtain⟨h1,h2,h3⟩:=(AO (bY p g) RC lv c v).1 (hsub v hv)
  exact⟨h1,wB.1 h2,h3⟩
 have hcnt:∀v,xG (ch++[t]) v=xG ch v+if t.testBit v=true then 1 else 0:=IV ch t
 have hrow:∀v,v<g.2.length->(at' c (v:Int)).length=1:=fun v hv=>hI.r.row v hv
 have hat:∀v,v<g.2.length->at' (nG (bY p g) eY RC c t) (v:Int)=if t.testBit v=true then BO (bY p g) eY RC c v (uU (bY p g) RC c v)else at' c (v:Int):=fun v hv=>Ib (by rw[hcl];exact hv)
 have hcol1:∀v,t.testBit v=true->CK (nG (bY p g) eY RC c t) v=((Dw ((List.range (row g v).length).map fun q=>xY g c v q):Nat):Int):=fun v hv=>by
  obtain⟨h1,h2,_⟩:=hin v hv
  unfold CK
  rw[hat v h1,if_pos hv,HY h2]
  exact Xj hV h1 (hrow v h1)
 have hcol0:∀v,v<g.2.length->t.testBit v=false->CK (nG (bY p g) eY RC c t) v=CK c v:=fun v hv hb=>by
  unfold CK
  rw[hat v hv,if_neg (by rw[hb];decide)]
 have hzero:∀v,t.testBit v=true->xG ch v=0:=fun v hv=>by
  obtain⟨h1,h2,_⟩:=hin v hv
  rcases Nat.eq_zero_or_pos (xG ch v)with e|e
  ·exact e
  ·exact absurd h2 (hI.done v h1 e).2
 have ht32:t<4294967296:=by have:=RF.lt hV (fun i hi=>(hin i hi).1);omega
 refine⟨⟨by rw[Ju,hcl],fun v hv=> ?_,fun v hv x hx=> ?_⟩,fun v hv=> ?_,fun v hv h1=> ?_,?_,fun s hs=> ?_⟩
 ·rw[hat v hv]
  split
  ·rw[Jo];exact hrow v hv
  ·exact hrow v hv
 ·obtain rfl:x=0:=by simp[eY]at hx;exact hx
  rw[Zx,Zu]
  show 0<=CK (nG (bY p g) eY RC c t) v∧CK (nG (bY p g) eY RC c t) v<=_
  cases hb:t.testBit v with
  |true=>
   have:=Px g c v
   have:=(hV.node v hv).deg
   rw[hcol1 v hb];omega
  |false=>
   have:=hI.r.ok v hv 0 (by decide)
   rw[Zx,Zu]at this
   rw[hcol0 v hv hb];exact this
 ·rw[hcnt]
  have:=hI.one v hv
  split
  ·rename_i hb;rw[hzero v hb];omega
  ·omega
 ·cases hb:t.testBit v with
  | true =>
   obtain⟨_,_,hl⟩:=hin v hb
   refine⟨hl,?_⟩
   rintro⟨i,hi,he⟩
   obtain⟨u,hu,hue,hadj⟩:=hV.port hv hi
   have hub:t.testBit u=false:=by
    cases hq:t.testBit u with
    |false=>rfl
    |true=>exact absurd hadj (hind v u hb hq)
   rw[tF hue,hcol0 u hu hub,hcol1 v hb]at he
   have:=(Aq ((List.range (row g v).length).map fun q=>xY g c v q)).1
   refine this (List.mem_map.2 ⟨i,List.mem_range.2 hi,?_⟩)
   rw[tF hue];exact he
  | false =>
   rw[hcnt,if_neg (by rw[hb];decide)]at h1
   obtain⟨h2,h3⟩:=hI.done v hv h1
   refine⟨h2,?_⟩
   rintro⟨i,hi,he⟩
   obtain⟨u,hu,hue,hadj⟩:=hV.port hv hi
   rw[tF hue,hcol0 v hv hb]at he
   cases hub:t.testBit u with
   |false=>
    rw[hcol0 u hu hub]at he
    exact h3 ⟨i,hi,by rw[tF hue];exact he⟩
   |true=>
    rw[hcol1 u hub]at he
    obtain⟨j,hj,hjv⟩:=hV.back hv hadj
    refine(Aq ((List.range (row g u).length).map fun q=>xY g c u q)).1 (List.mem_map.2 ⟨j,List.mem_range.2 hj,?_⟩)
    rw[tF hjv];exact he.symm
 ·obtain⟨u,hu⟩:=Fg ht0
  have hun:=(hin u hu.bit).1
  have:=Ux (f:=xG ch) (h:=xG (ch++[t])) (n:=g.2.length) (u:=u) (fun v _=>by rw[hcnt];omega) hun (by rw[hcnt,if_pos hu.bit];omega)
  have:=hI.sum
  omega
 ·rcases List.mem_append.1 hs with h|h
  ·exact hI.sets s h
  ·rw[List.mem_singleton.1 h];exact ht32
theorem On {p:xP} {g:GR} (x:VG g) {c:List (List Int)} (hc:IA g c eY) {t:Nat} (s:∀v,t.testBit v=true->v<g.2.length∧vD g c v) (o:∀v u,t.testBit v=true->t.testBit u=true->¬Iw g v u) {v:Nat} (b:v<g.2.length) (h:vD g (nG (bY p g) eY RC c t) v):vD g c v∧t.testBit v=false:=by
 have y:=hc.len
 have r:∀v,v<g.2.length->(at' c (v:Int)).length=1:=fun v b=>hc.row v b
 have m:∀v,v<g.2.length->at' (nG (bY p g) eY RC c t) (v:Int)=if t.testBit v=true then BO (bY p g) eY RC c v (uU (bY p g) RC c v)else at' c (v:Int):=fun v b=>Ib (by rw[y];exact b)
 have d:∀v,t.testBit v=true->CK (nG (bY p g) eY RC c t) v=((Dw ((List.range (row g v).length).map fun q=>xY g c v q):Nat):Int):=fun v b=>by
  obtain⟨w,C⟩:=s v b
  unfold CK
  rw[m v w,if_pos b,HY C]
  exact Xj x w (r v w)
 have a:∀v,v<g.2.length->t.testBit v=false->CK (nG (bY p g) eY RC c t) v=CK c v:=fun v b n=>by
  unfold CK
  rw[m v b,if_neg (by rw[n];decide)]
 obtain⟨i,z,l⟩:=h
 obtain⟨u,B,f,k⟩:=x.port b z
 cases n:t.testBit v with
 | true =>
  exfalso
  have e:t.testBit u=false:=by
   cases E:t.testBit u with
   |false=>rfl
   |true=>exact absurd k (o v u n E)
  rw[tF f,a u B e,d v n]at l
  refine(Aq ((List.range (row g v).length).map fun q=>xY g c v q)).1 (List.mem_map.2 ⟨i,List.mem_range.2 z,?_⟩)
  rw[tF f];exact l
 | false =>
  rw[tF f,a v b n]at l
  refine⟨?_,rfl⟩
  cases e:t.testBit u with
  |false=>
   rw[a u B e]at l
   exact⟨i,z,by rw[tF f];exact l⟩
  |true=>
   rw[d u e]at l
   obtain⟨j,D,A⟩:=x.back b k
   exfalso
   refine(Aq ((List.range (row g u).length).map fun q=>xY g c u q)).1 (List.mem_map.2 ⟨j,List.mem_range.2 D,?_⟩)
   rw[tF A];exact l.symm
end
section
structure aaX (g:GR) (lv:Nat) (d:a_) (k:Nat) (c:a_) (ch:gJ):Prop where
 m:Qg g lv k c ch
 sp:∀v,v<g.2.length->vD g c v->vD g d v
 mv:∀v,v<g.2.length->1<=xG ch v->vD g d v
theorem Uv {g:GR} {b:Nat} {d:a_} (a:IA g d eY):aaX g b d 0 d []:=
 ⟨⟨a,fun v _=>by simp[xG],fun v _ h=>by simp[xG]at h,by omega,fun t h=>by cases h⟩,fun _ _ h=>h,fun v _ h=>by simp[xG]at h⟩
end
end Go.Proofs.YtpenklncfhiloaaGreatDoor
end
section
namespace Go.Proofs.YtpenklncfhiloaaGreatDoor
open Go.Sx
section
def xJ (U:Nat) (p0:cT):Option (Bool):=
 Option.bind (dB U ((p0.1,p0.2))) fun a=>(some (a))
theorem XZ:aO Tryz.prog 53:=Tryz.call53
theorem Gj (U:Nat) {p0:cT} (a:Value)  (b:Value)  (d:jT) (r:Bool) (h:xJ U p0=some r):
  aV Tryz.prog 53 #[Value.agg #[a,b]] [Sl bL a p0.1,S2 aW b d p0.2] (fun x:Unit=>vB (r)) (fun x l=>l) (fun _ l=>l):=by
 refine aV.of Tryz.func53 rfl Tryz.ntmps53 rfl fun c=>?_
 refine sqR<|aE (aG.box (cs:=[a,b]) rfl rfl) rfl fun g=>qkAsg rfl<|dtN<|sqR<|qkLdA 0 rfl<|bnE h fun e f h=>aE (aG.callQ Do (nO U a b d e f) rfl (iJ [0,1] rfl)) rfl fun i=>qkAsg rfl<|dtN<|aN ?_
 cases h
 exact vH rfl
end
section
def fN  (a:Bool):Option (Bool):=
 some (a)
def f_ (U:Nat) (p0:cT) (p1:a_):Option (Bool):=
 Option.bind (xJ U ((p0.1,p0.2))) fun b=>(if b=true then(Option.bind (iO U ((p0.1,p0.2)) p1 ([(List.length p0.1:Int)])) fun a=>(fN  (a)))else(fN  (false)))
theorem XR:aO Tryz.prog 26:=Tryz.call26
theorem zA (U:Nat) {p0:cT} {p1:a_} (v0:Value)  (v1:Value)  (z2:jT)  (v3:Value)  (z4:oV) (r:Bool) (h:f_ U p0 p1=some r):
  aV Tryz.prog 26 #[Value.agg #[v0,v1],v3] [Sl bL v0 p0.1,S2 aW v1 z2 p0.2,S2 bL v3 z4 p1] (fun x:Unit=>vB (r)) (fun x l=>l) (fun _ l=>l):=by
 refine aV.of Tryz.func26 rfl Tryz.ntmps26 rfl fun c=>?_
 refine sqR<|aE (aG.box (cs:=[v0,v1]) rfl rfl) rfl fun b1=>qkAsg rfl<|dtN<|aH<|midU (fun a3=>fN  a3=some r) (fun a3 b4=>[(4,vB (a3))]) (fun a3 b4=>[]) ?_ ?_
 ·refine aM<|qkLdA 0 rfl<|bnE h fun r5 w6 h=>aE (aG.callQ XZ (Gj U v0 v1 z2 r5 w6) rfl (iJ [0,1] rfl)) rfl fun x7=>qkMove rfl ?_
  refine qE (by exact rfl) (by exact rfl) (fun hp8=>?_) (fun hp8=>?_)
  ·have h:=Ji hp8 h
   refine aL rfl (eF 0 rfl rfl rfl rfl) rfl<|gyMove rfl<|aL rfl (dD rfl rfl rfl rfl rfl) rfl<|aL rfl (d_ 0 rfl rfl rfl rfl rfl) rfl<|aL rfl (fM rfl (aC.fact 0 rfl) rfl) rfl<|pB rfl (cR (e:=cE) ([(List.length p0.1:Int)]) [(0,vI (List.length p0.1:Int))] rfl rfl rfl rfl (pK (vI (List.length p0.1:Int)) rfl) rfl rfl rfl) rfl fun u9=>bnE h fun r10 w11 h=>pB rfl (aG.callQ X_ (CP U v0 v1 z2 v3 z4 u9 r10 w11) rfl (aA.cons (aC.fact 0 rfl) (aA.cons (aC.fact 1 rfl) (aA.cons (aC.fact 2 rfl) (aA.cons (aT (aC.res 0 rfl) cW) .nil))))) rfl fun x12=>qkPkT rfl<|qkAsg rfl<|dtN ?_
   exact bO (r10) () h SF .nil (aA.refl _ _)
  have h:=Eh hp8 h
  refine gdSkip rfl<|gdSkip rfl<|gdSkip rfl<|gdSkip rfl<|gdSkip rfl<|gdSkip rfl<|gdSkip rfl<|qkPkF rfl<|qkAsg rfl<|dtN ?_
  exact bO (false) () h SF .nil (aA.refl _ _)
 intro a3 b4 h
 unfold fN at h
 refine aN ?_
 cases h
 exact lD rfl
end
section
def kV  (a:Int):Option (Int):=
 some (a)
def kX (b:eS) (a:eR->Option (Int)) (c:Int):Option (Int):=
 a ((wI .i64 (b.1+(1:Int))),c)
def iL (b:eS) (a:eR->Option (Int)) (c:Int):Option (Int):=
 a ((wI .i64 (b.1+(1:Int))),c)
def fW (p0:cT) (p1:a_) (a:eS) (d:eR->Option (Int)) (b:eS) (c:eR->Option (Int)):Option (Int):=
 if b.1<(List.length (at' p0.2 a.1):Int)then(ck (0<=b.1∧b.1<(List.length (at' p0.2 a.1):Int)) (ck (0<=a.1∧a.1<(List.length p1:Int)) (ck (0<=(0:Int)∧(0:Int)<(List.length (at' p1 a.1):Int)) (ck (0<=((at' (at' p0.2 a.1) b.1).1)∧((at' (at' p0.2 a.1) b.1).1)<(List.length p1:Int)) (ck (0<=(0:Int)∧(0:Int)<(List.length (at' p1 ((at' (at' p0.2 a.1) b.1).1)):Int)) (if(at' (at' p1 a.1) (0:Int))=(at' (at' p1 ((at' (at' p0.2 a.1) b.1).1)) (0:Int))then(ck (0<=a.1) (iL b c (EH .u32 b.2 (xF .u32 (1:Int) a.1))))else(iL b c (b.2))))))))else(kX a d (b.2))
def eW (U:Nat) (p0:cT) (p1:a_) (a:eS) (b:eR->Option (Int)):Option (Int):=
 if a.1<(List.length p0.2:Int)then(ck (0<=a.1∧a.1<(List.length p0.2:Int)) (bM (fW p0 p1 a b) U ((0:Int),a.2)))else(kV  (a.2))
def kW (U:Nat) (p0:cT) (p1:a_) (a:Unit):Option (Int):=
 bM (eW U p0 p1) U ((0:Int),(0:Int))
def gN (U:Nat) (p0:cT) (p1:a_):Option (Int):=
 kW U p0 p1 (())
theorem XS:aO Tryz.prog 27:=Tryz.call27
theorem Bu (U:Nat) {p0:cT} {p1:a_} (v0:Value)  (v1:Value)  (z2:jT)  (v3:Value)  (z4:oV) (r:Int) (h:gN U p0 p1=some r):
  aV Tryz.prog 27 #[Value.agg #[v0,v1],v3] [Sl bL v0 p0.1,S2 aW v1 z2 p0.2,S2 bL v3 z4 p1] (fun x:Unit=>vU (r)) (fun x l=>l) (fun _ l=>l):=by
 refine aV.of Tryz.func27 rfl Tryz.ntmps27 rfl fun c=>?_
 unfold gN at h
 refine dV Ha<|sqR<|aE (aG.box (cs:=[v0,v1]) rfl rfl) rfl fun b2=>bJ (Know.one (aC.sl (aC.fact 2 rfl))) fun ho4=>?_
 refine aE (aG.box (cs:=[v3]) rfl (by rw[cY ho4])) rfl fun b3=>?_
 refine qkAsg rfl<|dtN<|sqR<|aE (aG.alloc (cs:=[vU (0:Int)]) rfl rfl) rfl fun b5=>fY 0 rfl rfl rfl rfl rfl rfl<|dtN<|aH<|JO (A:=Int) (B:=gJ) (fun a8 b9=>⟨31,FX b9⟩) (fun a8=>kV  a8=some r) (fun a8 b9=>[(5,vP b5)]) (fun a8 b9=>[bS b5 [vU (a8)] 50,Gd b9]) (fun a8 b9=>[Sl bL v0 p0.1,S2 aW v1 z2 p0.2,S2 bL v3 z4 p1]) ?_ ?_
 ·refine sqR<|qkLdA 2 rfl<|AD (A:=Unit) (B:=Nat) (vs:=[Value.agg #[v0,v1]]) (fun a11=>kW U p0 p1 a11=some r) (fun a11 b12=>Value.func (.func 77) #[] #[vP b12]) (fun a11 b12=>[bS b12 [v0,v1] 28,bS b5 [vU (0:Int)] 50,bS b3 [v3] 30,Gd ([]:gJ)]) (fun a11 b12=>[Sl bL v0 p0.1,S2 aW v1 z2 p0.2,S2 bL v3 z4 p1]) (uC.fn (show aO Tryz.prog 55 from Tryz.call55) rfl) Tryz.func55 rfl Tryz.ntmps55 rfl rfl ?_ ?_
  ·refine sqR<|aE (aG.box (cs:=[v0,v1]) rfl rfl) rfl fun b47=>qkAsg rfl<|dtN<|sqR<|aB (vR (cs:=[.tmp 1]) (vs:=[vP b47]) rfl) rfl<|qkAsg rfl<|dtN<|aN ?_
   exact vL () (b47) h (.inl rfl) (FE.r1 rfl (RV.tmp rfl)) rfl (aS.ix [0,1,2,4] rfl rfl) (aA.refl _ _)
  intro a11 b12 h
  unfold kW at h
  refine dtN<|aR<|AE (i:=3) (cs:=[vP b12]) ([]:gJ) rfl (show aO Tryz.prog 77 from Tryz.call77) rfl Tryz.func77 rfl Tryz.ntmps77 rfl fun UT D14 R15 hR16=>sqR<|qkFld rfl<|qkLd 1 rfl<|aB (iY rfl (aC.fact 1 rfl) rfl) rfl<|qkMove rfl<|dtN<|aR<|loopL (eW U p0 p1) (fun a20 b21=>[(0,qD UT),(8,v1),(9,vI (List.length p0.2:Int)),(10,vI (a20.1))]) (fun a20 b21=>[Lp UT R15 LoopState.ready none,bS b12 [v0,v1] 28,bS b5 [vU (a20.2)] 50,bS b3 [v3] 30,Gd (List.cons D14 ([]:gJ))]) ((0:Int),(0:Int)) () h SF (aS.refl _) ?_
  intro k22 a20 b21 h
  refine sqR<|qkLss rfl<|dtN<|aH ?_
  refine eZ h rfl (fun h=>?_) fun h=>?_
  ·refine cL<|aH<|midU (fun a25=>kX a20 (bM (eW U p0 p1) k22) a25=some r) (fun a25 b26=>[(0,qD UT),(8,v1),(9,vI (List.length p0.2:Int)),(10,vI (a20.1))]) (fun a25 b26=>[Lp UT R15 LoopState.ready none,bS b12 [v0,v1] 28,bS b5 [vU (a25)] 50,bS b3 [v3] 30,Gd (List.cons D14 ([]:gJ))]) ?_ ?_
   ·refine aR<|sqR<|qkMove rfl<|ckE h fun j27 h=>aB (cG rfl rfl (aC.fact 1 rfl) rfl rfl j27) rfl<|aB (cI rfl (aC.fact 1 rfl) rfl rfl j27) rfl<|qkAsg rfl<|qkAsg rfl<|dtN<|sqR<|qkMove rfl<|aB (fM rfl (aC.el (aC.fact 1 rfl) j27.1 j27.2) rfl) rfl<|qkMove rfl<|dtN<|aR<|loopL (fW p0 p1 a20 (bM (eW U p0 p1) k22)) (fun a31 b32=>[(0,qD UT),(3,vI (a20.1)),(8,v1),(9,vI (List.length p0.2:Int)),(10,vI (a20.1)),(15,(at' z2 a20.1).1),(16,vI (List.length (at' p0.2 a20.1):Int)),(17,vI (a31.1))]) (fun a31 b32=>[Lp UT R15 LoopState.ready none,bS b12 [v0,v1] 28,bS b5 [vU (a31.2)] 50,bS b3 [v3] 30,Gd (List.cons D14 ([]:gJ))]) ((0:Int),a20.2) () h SF (aS.refl _) ?_
    intro k33 a31 b32 h
    refine sqR<|qkLss rfl<|dtN<|aH ?_
    refine eZ h rfl (fun h=>?_) fun h=>?_
    ·refine cL<|aH<|midU (fun a36=>iL a31 (bM (fW p0 p1 a20 (bM (eW U p0 p1) k22)) k33) a36=some r) (fun a36 b37=>[(0,qD UT),(3,vI (a20.1)),(8,v1),(9,vI (List.length p0.2:Int)),(10,vI (a20.1)),(15,(at' z2 a20.1).1),(16,vI (List.length (at' p0.2 a20.1):Int)),(17,vI (a31.1))]) (fun a36 b37=>[Lp UT R15 LoopState.ready none,bS b12 [v0,v1] 28,bS b5 [vU (a36)] 50,bS b3 [v3] 30,Gd (List.cons D14 ([]:gJ))]) ?_ ?_
     ·refine aR<|sqR<|ckE h fun j38 h=>aB (bG rfl rfl (aC.el (aC.fact 1 rfl) j27.1 j27.2) rfl rfl j38) rfl<|aB (gV (cs:=[vI ((at' (at' p0.2 a20.1) a31.1).1),vI ((at' (at' p0.2 a20.1) a31.1).2)]) rfl (aC.el (aC.fact 1 rfl) j27.1 j27.2) aU rfl rfl rfl rfl j38) rfl<|aE (aG.alloc (cs:=Oz) rfl rfl) rfl fun b39=>aY 0 (vs:=[vI ((at' (at' p0.2 a20.1) a31.1).1),vI ((at' (at' p0.2 a20.1) a31.1).2)]) rfl rfl rfl rfl rfl rfl<|dtN<|sqR<|qkMove rfl<|qkMove rfl<|qkLdA 0 rfl<|GU (us:=[vI (a20.1),Value.agg #[vI ((at' (at' p0.2 a20.1) a31.1).1),vI ((at' (at' p0.2 a20.1) a31.1).2)]]) (i:=1) hR16 rfl rfl rfl rfl rfl rfl<|sqR<|qkAsg rfl<|dtN<|aM<|aE (aG.alloc (cs:=Oz) rfl rfl) rfl fun b40=>aY 0 (vs:=[vI ((at' (at' p0.2 a20.1) a31.1).1),vI ((at' (at' p0.2 a20.1) a31.1).2)]) rfl rfl rfl rfl rfl rfl<|dtN<|JK (i:=2) rfl<|aR<|aH ?_
      refine JR.start [0,0,3,7,15,31,0,0,128,448,960,1984,4032,8191] 13 mixedOrders (by decide +kernel) ?_
      refine JR.open (by exact rfl) ?_
      refine jkLd 5 rfl<|jkMove rfl<|ckE h fun j41 h=>bD rfl .nil (lA 2 rfl) (cG rfl rfl (aC.fact 0 rfl) rfl rfl j41) aK.z<|bD rfl .nil (lA 2 rfl) (cI rfl (aC.fact 0 rfl) rfl rfl j41) aK.z<|ckE h fun j42 h=>bD rfl .nil (lA 2 rfl) (bG rfl rfl (aC.el (aC.fact 0 rfl) j41.1 j41.2) rfl rfl j42) aK.z<|bD rfl .nil (lA 2 rfl) (cK rfl (aC.el (aC.fact 0 rfl) j41.1 j41.2) rfl rfl rfl fE j42) aK.z<|jkLd 5 rfl<|jkFld rfl<|jkLd 0 rfl<|ckE h fun j43 h=>bD rfl .nil (lA 2 rfl) (cG rfl rfl (aC.fact 0 rfl) rfl rfl j43) aK.z<|bD rfl .nil (lA 2 rfl) (cI rfl (aC.fact 0 rfl) rfl rfl j43) aK.z<|ckE h fun j44 h=>bD rfl .nil (lA 2 rfl) (bG rfl rfl (aC.el (aC.fact 0 rfl) j43.1 j43.2) rfl rfl j44) aK.z<|bD rfl .nil (lA 2 rfl) (cK rfl (aC.el (aC.fact 0 rfl) j43.1 j43.2) rfl rfl rfl fE j44) aK.z<|bF 13 rfl rfl<|qkEql rfl<|dtN ?_
      refine eZ h rfl (fun h=>?_) fun h=>?_
      ·refine JR.start [0,0,2,7,15] 3 mixedOrders (by decide +kernel) ?_
       refine JR.open (by exact rfl) ?_
       refine jkLd 4 rfl<|jkMove rfl<|ckE h fun j46 h=>jqN rfl (FL rfl rfl j46)<|bF 3 rfl rfl<|aB (Nz rfl rfl) rfl<|fY 4 rfl rfl rfl rfl rfl rfl<|eI<|KZ<|Bw (i:=2) rfl<|aB (o_ rfl) rfl<|dtN<|AC rfl<|eJ<|inT ?_
       exact bO (EH .u32 a31.2 (xF .u32 (1:Int) a20.1)) () h SF (aS.ix [2,3,4,5,6] rfl rfl) (aA.refl _ _)
      refine eJ<|KZ<|Bw (i:=2) rfl<|aB (o_ rfl) rfl<|dtN<|AC rfl<|eJ<|inT ?_
      exact bO (a31.2) () h SF (aS.ix [2,3,4,5,6] rfl rfl) (aA.refl _ _)
     intro a36 b37 h
     unfold iL at h
     refine aM<|qkAdd rfl<|qkMove rfl<|dtN ?_
     exact Ah ((wI .i64 (a31.1+(1:Int))),a36) () h SF rfl
    refine qP<|eL<|eL<|wU<|inT ?_
    exact iQ (a31.2) () h SF rfl
   intro a25 b26 h
   unfold kX at h
   refine aM<|qkAdd rfl<|qkMove rfl<|dtN ?_
   exact Ah ((wI .i64 (a20.1+(1:Int))),a25) () h SF rfl
  refine qP<|eL<|eL<|wU<|No (i:=0) (.inr rfl) rfl (FE.r0 rfl)<|inT ?_
  exact DN (a20.2) (List.cons D14 ([]:gJ)) rfl h SF (aS.ix [2,4] rfl rfl) (aA.refl _ _)
 intro a8 b9 h
 unfold kV at h
 refine sqR<|qkLd 0 rfl<|qkAsg rfl<|dtN<|aN<|oW (i:=1) (Ds:=(b9)) (.inl rfl) rfl ?_
 cases h
 exact vH rfl
end
section
def lN  (a:Bool):Option (Bool):=
 some (a)
def nC (U:Nat) (p0:cT) (p1:a_):Option (Bool):=
 Option.bind (f_ U ((p0.1,p0.2)) p1) fun a=>(if a=true then(Option.bind (gN U ((p0.1,p0.2)) p1) fun b=>(lN  (decide (b=(0:Int)))))else(lN  (false)))
theorem XK:aO Tryz.prog 10:=Tryz.call10
theorem Ew (U:Nat) {p0:cT} {p1:a_} (v0:Value)  (v1:Value)  (z2:jT)  (v3:Value)  (z4:oV) (r:Bool) (h:nC U p0 p1=some r):
  aV Tryz.prog 10 #[Value.agg #[v0,v1],v3] [Sl bL v0 p0.1,S2 aW v1 z2 p0.2,S2 bL v3 z4 p1] (fun x:Unit=>vB (r)) (fun x l=>l) (fun _ l=>l):=by
 refine aV.of Tryz.func10 rfl Tryz.ntmps10 rfl fun c=>?_
 refine sqR<|aE (aG.box (cs:=[v0,v1]) rfl rfl) rfl fun b1=>qkAsg rfl<|dtN<|aH<|midU (fun a3=>lN  a3=some r) (fun a3 b4=>[(4,vB (a3))]) (fun a3 b4=>[]) ?_ ?_
 ·refine aM<|qkLdA 0 rfl<|qkMove rfl<|bnE h fun r5 w6 h=>aE (aG.callQ XR (zA U v0 v1 z2 v3 z4 r5 w6) rfl (iJ [0,1,2] rfl)) rfl fun x7=>qkMove rfl ?_
  refine qE (by exact rfl) (by exact rfl) (fun hp8=>?_) (fun hp8=>?_)
  ·have h:=Ji hp8 h
   refine aL rfl (eF 0 rfl rfl rfl rfl) rfl<|gyMove rfl<|bnE h fun r9 w10 h=>pB rfl (aG.callQ XS (Bu U v0 v1 z2 v3 z4 r9 w10) rfl (iJ [0,1,2] rfl)) rfl fun x11=>aL rfl (yE rfl rfl) rfl<|qkPkT rfl<|qkAsg rfl<|dtN ?_
   exact bO (decide (r9=(0:Int))) () h SF .nil (aA.refl _ _)
  have h:=Eh hp8 h
  refine gdSkip rfl<|gdSkip rfl<|gdSkip rfl<|gdSkip rfl<|qkPkF rfl<|qkAsg rfl<|dtN ?_
  exact bO (false) () h SF .nil (aA.refl _ _)
 intro a3 b4 h
 unfold lN at h
 refine aN ?_
 cases h
 exact lD rfl
end
end Go.Proofs.YtpenklncfhiloaaGreatDoor
end
section
namespace Go.Proofs.YtpenklncfhiloaaGreatDoor
open Go Go.Sx
def cfM (g:GR) (c:a_):Nat:=sJ (fun v=>zN (vG g c v) (row g v).length) g.2.length
theorem VS {g:GR} {c:a_} (v:Nat):(cfM g c).testBit v=true↔v<g.2.length∧vD g c v:=by
 unfold cfM
 rw[Fi,Bool.and_eq_true,decide_eq_true_eq,LC]
 unfold vD vG
 simp only[decide_eq_true_eq]
 constructor
 ·rintro⟨a,i,b,d⟩
  exact⟨a,i,b,d.symm⟩
 ·rintro⟨a,i,b,d⟩
  exact⟨a,i,b,d.symm⟩
theorem SV {g:GR} {c:a_} (hV:VG g) (hC:Cf g c [(g.2.length:Int)]):gN 1000 g c=some ((cfM g c:Nat):Int):=by
 have h24:=hV.n24
 have hlen:=hV.len
 have hcl:=hC.len
 have hrow:∀u:Nat,u<g.2.length->(at' c (u:Int)).length=1:=fun u hu=>hC.row u hu
 unfold gN kW
 refine dM (F:=fun v:Nat=>((v:Int),((sJ (fun v=>zN (vG g c v) (row g v).length) v:Nat):Int))) g.2.length (fun v ag hv=> ?_) (fun ag=> ?_) 1000 (by omega)
 ·unfold eW
  dsimp only
  rw[if_pos (by omega),cQ (by omega)]
  have hdeg:(at' g.2 (v:Int)).length<g.2.length:=(hV.node v hv).deg
  have hm:=Kr (fun v=>zN (vG g c v) (row g v).length) (k:=v) (by omega)
  have h1:=hrow v hv
  refine Eq.trans (dM (step:=fW g c ((v:Int),((sJ (fun v=>zN (vG g c v) (row g v).length) v:Nat):Int)) ag) (K:=ag (((v+1:Nat):Int),((NB (zN (vG g c v) (row g v).length) (sJ (fun v=>zN (vG g c v) (row g v).length) v) v:Nat):Int))) (F:=fun i:Nat=>((i:Int),((NB (zN (vG g c v) i) (sJ (fun v=>zN (vG g c v) (row g v).length) v) v:Nat):Int))) (row g v).length (fun i ag2 hi=> ?_) (fun ag2=> ?_) 1000 (by show(at' g.2 (v:Int)).length<1000;omega)) rfl
  ·obtain⟨u,hu,hue⟩:=hV.to hv hi
   have hue':(at' (at' g.2 (v:Int)) (i:Int)).1=(u:Int):=hue
   have hi':i<(at' g.2 (v:Int)).length:=hi
   have h2:=hrow u hu
   unfold fW iL
   dsimp only
   rw[if_pos (by omega),cQ (by omega),cQ (by omega),cQ (by omega),hue',cQ (by omega),cQ (by omega),dY (by omega)]
   have hcls:vG g c v i=decide (at' (at' c (v:Int)) 0=at' (at' c (u:Int)) 0):=by unfold vG;rw[show fX (row g v) i=at' (at' g.2 (v:Int)) (i:Int)from rfl,hue'];rfl
   have ha:=Vo (q:=zN (vG g c v) i) hm (show v<32 by omega)
   by_cases hq:at' (at' c (v:Int)) 0=at' (at' c (u:Int)) 0
   ·rw[if_pos hq,cQ (by omega),Ka ha (by omega)]
    have:zN (vG g c v) (i+1)=true:=by simp[zN,hcls,hq]
    have e:NB (zN (vG g c v) i) (sJ (fun v=>zN (vG g c v) (row g v).length) v) v ||| 2^v=NB true (sJ (fun v=>zN (vG g c v) (row g v).length) v) v:=by
     unfold NB
     split
     ·exact WA _ _
     ·rfl
    rw[this,e]
   ·rw[if_neg hq]
    have:zN (vG g c v) (i+1)=zN (vG g c v) i:=by simp[zN,hcls,hq]
    simp only[this]
  ·unfold fW kX
   dsimp only
   rw[if_neg (by show¬(((row g v).length:Nat):Int)<((row g v).length:Int);omega),dY (by omega)]
 ·unfold eW kV
  dsimp only
  rw[if_neg (by omega)]
  rfl
theorem QC {g:GR} {c:a_} (a:VG g) (b:Cf g c [(g.2.length:Int)]):f_ 1000 g c=some true:=by
 unfold f_ xJ fN
 rw[show dB 1000 (g.1,g.2)=some true from(CI g).1 a,aZ rfl,aZ rfl,if_pos rfl,a.len,aZ (show iO 1000 (g.1,g.2) c [(g.2.length:Int)]=some true from(EZ a c _ (by simp)).1 b)]
theorem QW {g:GR} {c:a_} (hV:VG g) (hr:IA g c eY) (hm:∀v,v<g.2.length->¬vD g c v):nC 1000 g c=some true:=by
 have hC:=(aaz hV).1 hr
 have h0:cfM g c=0:=Cw fun v=>by
  cases h:(cfM g c).testBit v with
  |false=>simp
  |true=>obtain⟨a,b⟩:=(VS v).1 h;exact absurd b (hm v a)
 unfold nC lN
 rw[aZ (show f_ 1000 (g.1,g.2) c=_ from QC hV hC),if_pos rfl,aZ (show gN 1000 (g.1,g.2) c=_ from SV hV hC),h0]
 rfl
end Go.Proofs.YtpenklncfhiloaaGreatDoor
end
