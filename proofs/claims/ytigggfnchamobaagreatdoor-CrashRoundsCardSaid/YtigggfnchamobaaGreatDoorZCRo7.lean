/- Models and proofs. Conditions: none. -/
import Derived.Test.YtigggfnchamobaaGreatDoorZCRo5
import Derived.Test.YtigggfnchamobaaGreatDoorZCRo6
import Derived.Test.YtigggfnchamobaaGreatDoorZCRo2
set_option linter.unusedVariables false
set_option linter.unusedSimpArgs false
set_option maxHeartbeats 4000000
set_option maxRecDepth 20000
section
namespace Go.Proofs.YtigggfnchamobaaGreatDoor
open Go.Sx
section
def rM  (a7:dZ):Option (dZ):=
 some (a7)
def rO (a13:Int×dZ) (ag12:(Int×dZ)->Option (dZ)) (a19:dZ):Option (dZ):=
 ag12 ((wI .i64 (a13.1+(1:Int))),a19)
def lH (U:Nat) (p0:wX) (p1:dB) (a13:Int×dZ) (ag12:(Int×dZ)->Option (dZ)) (a28:Int×dZ) (ag27:(Int×dZ)->Option (dZ)):Option (dZ):=
 if a28.1<(List.length p0.2.1:Int)then(ck (0<=a28.1∧a28.1<(List.length p0.2.1:Int)) (ck (0<=a13.1∧a13.1<(List.length a28.2:Int)) (ck (0<=a13.1∧a13.1<(List.length a28.2:Int)) (Option.bind (gX U ((((at' p0.2.1 a28.1).1),((at' p0.2.1 a28.1).2.1),((at' p0.2.1 a28.1).2.2.1),((at' p0.2.1 a28.1).2.2.2.1),((at' p0.2.1 a28.1).2.2.2.2.1),((at' p0.2.1 a28.1).2.2.2.2.2))) ((p1.1,p1.2)) a13.1) fun r40=>(ck (0<=a28.1∧a28.1<(List.length (at' a28.2 a13.1):Int)) (ck (0<=a28.1∧a28.1<(List.length (at' (List.set a28.2 (Int.toNat a13.1) (List.set (at' a28.2 a13.1) (Int.toNat a28.1) (r40.1,((at' (at' a28.2 a13.1) a28.1).2)))) a13.1):Int)) (ag27 ((wI .i64 (a28.1+(1:Int))),(List.set (List.set a28.2 (Int.toNat a13.1) (List.set (at' a28.2 a13.1) (Int.toNat a28.1) (r40.1,((at' (at' a28.2 a13.1) a28.1).2)))) (Int.toNat a13.1) (List.set (at' (List.set a28.2 (Int.toNat a13.1) (List.set (at' a28.2 a13.1) (Int.toNat a28.1) (r40.1,((at' (at' a28.2 a13.1) a28.1).2)))) a13.1) (Int.toNat a28.1) (((at' (at' (List.set a28.2 (Int.toNat a13.1) (List.set (at' a28.2 a13.1) (Int.toNat a28.1) (r40.1,((at' (at' a28.2 a13.1) a28.1).2)))) a13.1) a28.1).1),r40.2)))))))))))else(rO a13 ag12 (a28.2))
def jT (U:Nat) (p0:wX) (p1:dB) (a13:Int×dZ) (ag12:(Int×dZ)->Option (dZ)):Option (dZ):=
 if a13.1<(List.length (List.replicate (Int.toNat (List.length p1.1:Int)) ([]:eJ)):Int)then(ck (0<=(List.length p0.2.1:Int)∧(List.length p0.2.1:Int)<=1099511627) (ck (0<=a13.1∧a13.1<(List.length a13.2:Int)) (bD (lH U p0 p1 a13 ag12) U ((0:Int),(List.set a13.2 (Int.toNat a13.1) (List.replicate (Int.toNat (List.length p0.2.1:Int)) ((0:Int),(0:Int))))))))else(rM  (a13.2))
def kV (U:Nat) (p0:wX) (p1:dB):Option (dZ):=
 ck (0<=(List.length p1.1:Int)∧(List.length p1.1:Int)<=1099511627) (bD (jT U p0 p1) U ((0:Int),(List.replicate (Int.toNat (List.length p1.1:Int)) ([]:eJ))))
theorem QG:aP Tryz.prog 85:=Tryz.call85
theorem AL (U:Nat) {p0:wX} {p1:dB} (v0:Value)  (v1:Value)  (v2:Value)  (v3:Value)  (z4:nK) (r:dZ) (h:kV U p0 p1=some r):
  aU Tryz.prog 85 #[Value.agg #[vS (p0.1),v0,v1],Value.agg #[v2,v3]] [Sl aJ v0 p0.2.1,Sl aF v1 p0.2.2,PF (Value.agg #[vS p0.1,v0,v1]),Sl bL v2 p1.1,S2 aW v3 z4 p1.2] (fun x:Value×List Value=>x.1) (fun x l=>Ar c_.raw x.1 x.2::jK bT x.2 r::l) (fun _ l=>l):=by
 refine aU.of Tryz.func85 rfl Tryz.ntmps85 rfl fun c=>?_
 refine sqR<|aE (aI.box (cs:=[vS (p0.1),v0,v1]) rfl rfl) rfl fun b1=>aE (aI.box (cs:=[v2,v3]) rfl rfl) rfl fun b2=>qkAsg rfl<|dtN<|sqR<|qkFld rfl<|qkLd 0 rfl<|qkLen (aC.fact 3 rfl) rfl<|ckE h fun j3 h=>jM (uM bT (Int.toNat (List.length p1.1:Int)))<|aE (pI (e:=c_.raw) (lX) rfl rfl rfl rfl j3 rfl rfl rfl) rfl fun u4=>qkAsg rfl<|dtN<|aH<|midL (B:=gH) (fun a7=>rM  a7=some r) (fun a7 b8=>[(5,u4)]) (fun a7 b8=>[Ar c_.raw u4 b8,jK bT b8 a7]) ?_ ?_
 ·refine sqR<|qkMove rfl<|aB (hZ rfl (bA (i:=0) (j:=1) rfl rfl bK) rfl) rfl<|qkMove rfl<|dtN<|aN<|loopL (B:=gH) (jT U p0 p1) (fun a13 b14=>[(2,vP b1),(3,vP b2),(5,u4),(14,vI (List.length (List.replicate (Int.toNat (List.length p1.1:Int)) ([]:eJ)):Int)),(15,vI (a13.1))]) (fun a13 b14=>[Ar c_.raw u4 b14,jK bT b14 a13.2,bM b2 [v2,v3] 28,bM b1 [vS (p0.1),v0,v1] 33]) ((0:Int),(List.replicate (Int.toNat (List.length p1.1:Int)) ([]:eJ))) (List.replicate (Int.toNat (List.length p1.1:Int)) (lX)) h SF (aT.refl _) ?_
  intro k15 a13 b14 h
  refine sqR<|qkLss rfl<|dtN<|aH ?_
  refine eD h rfl (fun h=>?_) fun h=>?_
  ·refine cG<|aH<|midL (B:=gH) (fun a19=>rO a13 (bD (jT U p0 p1) k15) a19=some r) (fun a19 b20=>[(2,vP b1),(3,vP b2),(5,u4),(14,vI (List.length (List.replicate (Int.toNat (List.length p1.1:Int)) ([]:eJ)):Int)),(15,vI (a13.1))]) (fun a19 b20=>[Ar c_.raw u4 b20,jK bT b20 a19,bM b2 [v2,v3] 28,bM b1 [vS (p0.1),v0,v1] 33]) ?_ ?_
   ·refine aN<|sqR<|qkMove rfl<|qkAsg rfl<|dtN<|sqR<|qkMove rfl<|qkMove rfl<|qkFld rfl<|qkLd 3 rfl<|qkLen (aC.fact 0 rfl) rfl<|ckE h fun j21 h=>aE (pI (e:=bT) (((0:Int),(0:Int))) rfl rfl rfl rfl j21 rfl rfl rfl) rfl fun u22=>ckE h fun j23 h=>aB (cI rfl rfl (bA (i:=1) (j:=2) rfl rfl bK) rfl rfl j23) rfl<|bV (Know.one ((aR (aC.res 0 rfl) bK))) fun ho24=>jM (tP (k:=a13.1) 2 0 rfl rfl rfl j23) ?_
    refine nN 0 1 ⟨j23.1,by first|exact j23.2|simpa using j23.2⟩ rfl rfl rfl rfl rfl (by simp) ho24 rfl ?_
    refine dtN<|sqR<|qkFld rfl<|qkLd 3 rfl<|qkLen (aC.fact 0 rfl) rfl<|qkMove rfl<|dtN<|aN<|loopL (lH U p0 p1 a13 (bD (jT U p0 p1) k15)) (fun a28 b29=>[(2,vP b1),(3,vP b2),(5,u4),(6,vI (a13.1)),(14,vI (List.length (List.replicate (Int.toNat (List.length p1.1:Int)) ([]:eJ)):Int)),(15,vI (a13.1)),(26,v0),(27,vI (List.length p0.2.1:Int)),(28,vI (a28.1))]) (fun a28 b29=>[Ar c_.raw u4 (List.set b14 (Int.toNat a13.1) u22),jK bT (List.set b14 (Int.toNat a13.1) u22) a28.2,bM b2 [v2,v3] 28,bM b1 [vS (p0.1),v0,v1] 33]) ((0:Int),(List.set a13.2 (Int.toNat a13.1) (List.replicate (Int.toNat (List.length p0.2.1:Int)) ((0:Int),(0:Int))))) () h SF (aT.refl _) ?_
    intro k30 a28 b29 h
    refine sqR<|qkLss rfl<|dtN<|aH ?_
    refine eD h rfl (fun h=>?_) fun h=>?_
    ·refine cG<|aH<|aN<|sqR<|qkMove rfl<|ckE h fun j32 h=>aB (aY rfl rfl (aC.fact 0 rfl) rfl rfl j32) rfl<|aB (fR (cs:=[vS ((at' p0.2.1 a28.1).1),vI ((at' p0.2.1 a28.1).2.1),vI ((at' p0.2.1 a28.1).2.2.1),vI ((at' p0.2.1 a28.1).2.2.2.1),vI ((at' p0.2.1 a28.1).2.2.2.2.1),vI ((at' p0.2.1 a28.1).2.2.2.2.2)]) rfl (aC.fact 0 rfl) qJ rfl rfl rfl rfl j32) rfl<|aE (aI.alloc (cs:=ZG) rfl rfl) rfl fun b33=>qkAsg rfl<|bF 0 (vs:=[vS ((at' p0.2.1 a28.1).1),vI ((at' p0.2.1 a28.1).2.1),vI ((at' p0.2.1 a28.1).2.2.1),vI ((at' p0.2.1 a28.1).2.2.2.1),vI ((at' p0.2.1 a28.1).2.2.2.2.1),vI ((at' p0.2.1 a28.1).2.2.2.2.2)]) rfl rfl rfl rfl rfl rfl<|dtN ?_
     refine JR.start [0,0,3,7,0,0,0,96,224,0,0,0,0,7168,15360,31744,31744,31,196095,458239,992,2097151,4194303] 21 mixedOrders (by decide +kernel) ?_
     refine JR.open (by exact rfl) ?_
     refine jkMove rfl<|jkMove rfl<|ckE h fun j34 h=>bS (cC 2 rfl) fun hl35=>?_
     refine bG rfl (aT.cons 1 rfl .nil) .nil (fV 0 rfl rfl rfl rfl rfl j34.1 (by have q1:=j34.2;have q2:=hl35;(try simp only[List.length_set]at q1);(try simp only[List.length_set]at q2);(try simp only[List.length_set]);omega)) aK.z ?_
     refine bS (cC 2 rfl) fun hl36=>bG rfl (aT.cons 1 rfl .nil) .nil (kF 0 rfl rfl hl36 rfl rfl j34) aK.z<|jkMove rfl<|jkMove rfl<|jkMove rfl<|ckE h fun j37 h=>bS (cC 2 rfl) fun hl38=>?_
     refine bG rfl (aT.cons 1 rfl .nil) .nil (fV 0 rfl rfl rfl rfl rfl j37.1 (by have q1:=j37.2;have q2:=hl38;(try simp only[List.length_set]at q1);(try simp only[List.length_set]at q2);(try simp only[List.length_set]);omega)) aK.z ?_
     refine bS (cC 2 rfl) fun hl39=>bG rfl (aT.cons 1 rfl .nil) .nil (kF 0 rfl rfl hl39 rfl rfl j37) aK.z<|jkMove rfl<|jkLdA 0 rfl<|jkLdA 3 rfl<|jkMove rfl<|bnE h fun r40 w41 h=>JR.loud rfl rfl rfl (aI.callQ Nc (Ab U v2 v3 z4 r40 w41) rfl (nE [3,4] rfl)) rfl (fun x42=>(n_ [([1],[]),([1],[]),([1],[]),([1],[])] rfl)) fun x42=>jqN rfl (jS rfl)<|jqN rfl (iJ rfl rfl)<|jqN rfl (iJ rfl rfl)<|ckE h fun j43 h=>bS (Know.len (aC.row (j:=2) rfl bK j34.1 j34.2)) fun hl44=>jqN rfl (Fy rfl rfl hl44 rfl rfl j43) ?_
     refine jqN rfl (AV (i:=0) rfl rfl rfl rfl rfl (by decide)) ?_
     refine qW rfl rfl rfl (An (us:=[vI (r40.1)]) (o:=0) (k:=a13.1) 2 ((r40.1,((at' (at' a28.2 a13.1) a28.1).2))) ⟨j34.1,by first|exact j34.2|simpa using j34.2⟩ j43 rfl rfl rfl rfl rfl rfl rfl rfl rfl rfl) (fun x45=>(n_ [] rfl)) fun x45=>ckE h fun j46 h=>bS (Know.len (aC.row (j:=2) rfl bK j37.1 (by first|exact j37.2|simpa using j37.2))) fun hl47=>?_
     refine jqN rfl (Fy rfl rfl hl47 rfl rfl j46)<|bN 21 rfl rfl ?_
     refine aB (AV (i:=1) rfl rfl rfl rfl rfl (by decide)) rfl ?_
     refine MU (An (us:=[vI (r40.2)]) (o:=1) (k:=a13.1) 2 ((((at' (at' (List.set a28.2 (Int.toNat a13.1) (List.set (at' a28.2 a13.1) (Int.toNat a28.1) (r40.1,((at' (at' a28.2 a13.1) a28.1).2)))) a13.1) a28.1).1),r40.2)) ⟨j37.1,by first|exact j37.2|simpa using j37.2⟩ j46 rfl rfl rfl rfl rfl rfl rfl rfl rfl rfl) fun x48=>dY<|inT<|aM<|qkAdd rfl<|qkMove rfl<|dtN ?_
     exact mO ((wI .i64 (a28.1+(1:Int))),(List.set (List.set a28.2 (Int.toNat a13.1) (List.set (at' a28.2 a13.1) (Int.toNat a28.1) (r40.1,((at' (at' a28.2 a13.1) a28.1).2)))) (Int.toNat a13.1) (List.set (at' (List.set a28.2 (Int.toNat a13.1) (List.set (at' a28.2 a13.1) (Int.toNat a28.1) (r40.1,((at' (at' a28.2 a13.1) a28.1).2)))) a13.1) (Int.toNat a28.1) (((at' (at' (List.set a28.2 (Int.toNat a13.1) (List.set (at' a28.2 a13.1) (Int.toNat a28.1) (r40.1,((at' (at' a28.2 a13.1) a28.1).2)))) a13.1) a28.1).1),r40.2)))) () h SF (aT.ix [1,2,3,4] rfl rfl) (aD.refl _ _)
    refine pG<|dR<|dR<|uK<|inT ?_
    exact jA (a28.2) (List.set b14 (Int.toNat a13.1) u22) h SF rfl
   intro a19 b20 h
   unfold rO at h
   refine aM<|qkAdd rfl<|qkMove rfl<|dtN ?_
   exact yB ((wI .i64 (a13.1+(1:Int))),a19) (b20) h SF rfl
  refine vT ?_
  exact cE (a13.2) (b14) h SF (aT.ix [0,1] rfl rfl) (aD.refl _ _)
 intro a7 b8 h
 unfold rM at h
 refine sqR<|qkMove rfl<|qkAsg rfl<|dtN<|aQ ?_
 cases h
 exact fO (u4,b8) rfl rfl (RV.tmp rfl) (aT.refl _) aD.nil
end
section
def sS  (a11:Unit):Option (Int):=
 some (0:Int)
def mX (a15:Int) (ag14:(Int)->Option (Int)) (a19:Unit):Option (Int):=
 ag14 (wI .i64 (a15+(1:Int)))
def sT (a15:Int) (ag14:(Int)->Option (Int)) (a28:Bool):Option (Int):=
 if a28=true then(some (9:Int))else(mX a15 ag14 (()))
def kO (U:Nat) (p0:wX) (p1:dB) (a15:Int) (ag14:(Int)->Option (Int)):Option (Int):=
 if a15<(List.length p0.2.1:Int)then(ck (0<=a15∧a15<(List.length p0.2.1:Int)) (if((at' p0.2.1 a15).2.1)≠(1:Int)then(mX a15 ag14 (()))else(Option.bind (gX U ((((at' p0.2.1 a15).1),((at' p0.2.1 a15).2.1),((at' p0.2.1 a15).2.2.1),((at' p0.2.1 a15).2.2.2.1),((at' p0.2.1 a15).2.2.2.2.1),((at' p0.2.1 a15).2.2.2.2.2))) ((p1.1,p1.2)) (0:Int)) fun r24=>(if r24.2<r24.1 then(sT a15 ag14 (true))else(sT a15 ag14 (decide ((4096:Int)<(wI .i64 ((wI .i64 (r24.2 - r24.1))+(1:Int))))))))))else(sS  (()))
def q_ (U:Nat) (p0:wX) (p1:dB):Option (Int):=
 Option.bind (xU U ((p0.1,p0.2.1,p0.2.2))) fun r3=>(if(!r3)=true then(some (8:Int))else(Option.bind (e_ U ((p1.1,p1.2))) fun r7=>(if(!r7)=true then(some (1:Int))else(bD (kO U p0 p1) U (0:Int)))))
theorem TQ:aP Tryz.prog 108:=Tryz.call108
theorem Ha (U:Nat) {p0:wX} {p1:dB} (v0:Value)  (v1:Value)  (v2:Value)  (v3:Value)  (z4:nK) (r:Int) (h:q_ U p0 p1=some r):
  aU Tryz.prog 108 #[Value.agg #[vS (p0.1),v0,v1],Value.agg #[v2,v3]] [Sl aJ v0 p0.2.1,Sl aF v1 p0.2.2,PF (Value.agg #[vS p0.1,v0,v1]),Sl bL v2 p1.1,S2 aW v3 z4 p1.2] (fun x:Unit=>vI (r)) (fun x l=>l) (fun _ l=>l):=by
 refine aU.of Tryz.func108 rfl Tryz.ntmps108 rfl fun c=>?_
 refine sqR<|aE (aI.box (cs:=[vS (p0.1),v0,v1]) rfl rfl) rfl fun b1=>aE (aI.box (cs:=[v2,v3]) rfl rfl) rfl fun b2=>qkAsg rfl<|dtN<|aH<|sqR<|qkLdA 1 rfl<|bnE h fun r3 w4 h=>aE (aI.callQ Nf (Hf U v0 v1 r3 w4) rfl (nE [0,1,2] rfl)) rfl fun x5=>aB (qY rfl) rfl<|dtN ?_
 refine Ah h rfl (fun _ h=>?_) fun _ h=>?_
 ·refine sqR<|qkAsg rfl<|dtN<|aQ<|aG ?_
  cases h
  exact uV rfl
 refine cG<|aH<|sqR<|qkLdA 0 rfl<|bnE h fun r7 w8 h=>aE (aI.callQ Ix (uH U v2 v3 z4 r7 w8) rfl (nE [3,4] rfl)) rfl fun x9=>aB (qY rfl) rfl<|dtN ?_
 refine Ah h rfl (fun _ h=>?_) fun _ h=>?_
 ·refine sqR<|qkAsg rfl<|dtN<|aQ<|aG ?_
  cases h
  exact uV rfl
 refine cG<|aH<|midU (fun a11=>sS  a11=some r) (fun a11 b12=>[]) (fun a11 b12=>[]) ?_ ?_
 ·refine sqR<|qkFld rfl<|qkLd 1 rfl<|qkLen (aC.fact 0 rfl) rfl<|qkMove rfl<|dtN<|aN<|loopL (kO U p0 p1) (fun a15 b16=>[(3,vP b2),(16,v0),(17,vI (List.length p0.2.1:Int)),(18,vI (a15))]) (fun a15 b16=>[bM b2 [v2,v3] 28]) (0:Int) () h SF (aT.ix [0] rfl rfl) ?_
  intro k17 a15 b16 h
  refine sqR<|qkLss rfl<|dtN<|aH ?_
  refine eD h rfl (fun h=>?_) fun h=>?_
  ·refine cG<|aH<|midU (fun a19=>mX a15 (bD (kO U p0 p1) k17) a19=some r) (fun a19 b20=>[(3,vP b2),(16,v0),(17,vI (List.length p0.2.1:Int)),(18,vI (a15))]) (fun a19 b20=>[bM b2 [v2,v3] 28]) ?_ ?_
   ·refine aN<|sqR<|ckE h fun j21 h=>aB (aY rfl rfl (aC.fact 0 rfl) rfl rfl j21) rfl<|aB (fR (cs:=[vS ((at' p0.2.1 a15).1),vI ((at' p0.2.1 a15).2.1),vI ((at' p0.2.1 a15).2.2.1),vI ((at' p0.2.1 a15).2.2.2.1),vI ((at' p0.2.1 a15).2.2.2.2.1),vI ((at' p0.2.1 a15).2.2.2.2.2)]) rfl (aC.fact 0 rfl) qJ rfl rfl rfl rfl j21) rfl<|aE (aI.alloc (cs:=ZG) rfl rfl) rfl fun b22=>bF 0 (vs:=[vS ((at' p0.2.1 a15).1),vI ((at' p0.2.1 a15).2.1),vI ((at' p0.2.1 a15).2.2.1),vI ((at' p0.2.1 a15).2.2.2.1),vI ((at' p0.2.1 a15).2.2.2.2.1),vI ((at' p0.2.1 a15).2.2.2.2.2)]) rfl rfl rfl rfl rfl rfl<|dtN<|aH<|sqR<|qkFld rfl<|qkLd 0 rfl<|qkNeq rfl<|dtN ?_
    refine eD h rfl (fun h=>?_) fun h=>?_
    ·refine pG<|dR<|uK<|wZ ?_
     exact cE () (()) h SF (aT.ix [1] rfl rfl) (aD.refl _ _)
    refine cG<|sqR<|qkLdA 0 rfl<|qkLdA 1 rfl<|bnE h fun r24 w25 h=>aE (aI.callQ Nc (Ab U v2 v3 z4 r24 w25) rfl (nE [3,4] rfl)) rfl fun x26=>qkMove rfl<|qkExt rfl<|qkExt rfl<|qkAsg rfl<|qkAsg rfl<|dtN<|aH<|midU (fun a28=>sT a15 (bD (kO U p0 p1) k17) a28=some r) (fun a28 b29=>[(3,vP b2),(16,v0),(17,vI (List.length p0.2.1:Int)),(18,vI (a15)),(40,vB (a28))]) (fun a28 b29=>[bM b2 [v2,v3] 28]) ?_ ?_
    ·refine aM<|qkMove rfl<|qkMove rfl<|qkLss rfl<|qkMove rfl ?_
     refine B_ h rfl (fun _ h=>?_) fun _ h=>?_
     ·refine gdSkip rfl<|gdSkip rfl<|gdSkip rfl<|gdSkip rfl<|gdSkip rfl<|qkPkT rfl<|dtN ?_
      exact cE (true) () h SF (aT.ix [1] rfl rfl) (aD.refl _ _)
     refine gyMove rfl<|gyMove rfl<|aO rfl (oQ rfl rfl) rfl<|aO rfl (sO rfl rfl) rfl<|aO rfl (uN rfl rfl) rfl<|qkPkF rfl<|dtN ?_
     exact cE (decide ((4096:Int)<(wI .i64 ((wI .i64 (r24.2 - r24.1))+(1:Int))))) () h SF (aT.ix [1] rfl rfl) (aD.refl _ _)
    intro a28 b29 h
    refine Ah h rfl (fun _ h=>?_) fun _ h=>?_
    ·refine sqR<|qkAsg rfl<|dtN<|aQ<|bH<|aG<|aG<|bH<|aG ?_
     cases h
     exact uV rfl
    refine cS<|inT ?_
    exact jA () (()) h SF rfl
   intro a19 b20 h
   unfold mX at h
   refine aM<|qkAdd rfl<|qkMove rfl<|dtN ?_
   exact yB (wI .i64 (a15+(1:Int))) () h SF rfl
  refine vT ?_
  exact cE () (()) h SF .nil (aD.refl _ _)
 intro a11 b12 h
 unfold sS at h
 refine sqR<|qkAsg rfl<|dtN<|aQ ?_
 cases h
 exact lF rfl
end
section
def rV  (a2:Unit):Option (Bool):=
 some (true)
def rW (a6:Int) (ag5:(Int)->Option (Bool)) (a12:Bool):Option (Bool):=
 if a12=true then(some (false))else(ag5 (wI .i64 (a6+(1:Int))))
def lJ (p0:eJ) (p1:aL) (a6:Int) (ag5:(Int)->Option (Bool)):Option (Bool):=
 if a6<(List.length p1:Int)then(ck (0<=a6∧a6<(List.length p1:Int)) (ck (0<=a6∧a6<(List.length p0:Int)) (if(at' p1 a6)<((at' p0 a6).1)then(rW a6 ag5 (true))else(ck (0<=a6∧a6<(List.length p0:Int)) (rW a6 ag5 (decide (((at' p0 a6).2)<(at' p1 a6))))))))else(rV  (()))
def s_ (U:Nat) (p0:eJ) (p1:aL):Option (Bool):=
 if(List.length p1:Int)≠(List.length p0:Int)then(some (false))else(bD (lJ p0 p1) U (0:Int))
theorem TZ:aP Tryz.prog 132:=Tryz.call132
theorem GB (U:Nat) {p0:eJ} {p1:aL} (v0:Value)  (v1:Value) (r:Bool) (h:s_ U p0 p1=some r):
  aU Tryz.prog 132 #[v0,v1] [Sl aW v0 p0,Sl bL v1 p1] (fun x:Unit=>vB (r)) (fun x l=>l) (fun _ l=>l):=by
 refine aU.of Tryz.func132 rfl Tryz.ntmps132 rfl fun c=>?_
 refine sqR<|qkAsg rfl<|dtN<|aH<|sqR<|qkMove rfl<|qkLen (aC.fact 1 rfl) rfl<|qkMove rfl<|qkLen (aC.fact 0 rfl) rfl<|qkNeq rfl<|dtN ?_
 refine eD h rfl (fun h=>?_) fun h=>?_
 ·refine sqR<|qkAsg rfl<|dtN<|aQ<|aG ?_
  cases h
  exact lF rfl
 refine cG<|aH<|midU (fun a2=>rV  a2=some r) (fun a2 b3=>[]) (fun a2 b3=>[]) ?_ ?_
 ·refine sqR<|qkMove rfl<|qkLen (aC.fact 1 rfl) rfl<|qkMove rfl<|dtN<|aN<|loopL (lJ p0 p1) (fun a6 b7=>[(0,v0),(12,v1),(13,vI (List.length p1:Int)),(14,vI (a6))]) (fun a6 b7=>[]) (0:Int) () h SF (aT.refl _) ?_
  intro k8 a6 b7 h
  refine sqR<|qkLss rfl<|dtN<|aH ?_
  refine eD h rfl (fun h=>?_) fun h=>?_
  ·refine cG<|aH<|aN<|sqR<|qkMove rfl<|ckE h fun j10 h=>aB (aY rfl rfl (aC.fact 1 rfl) rfl rfl j10) rfl<|aB (bR rfl (aC.fact 1 rfl) rfl rfl rfl dN j10) rfl<|qkAsg rfl<|qkAsg rfl<|dtN<|aH<|midU (fun a12=>rW a6 (bD (lJ p0 p1) k8) a12=some r) (fun a12 b13=>[(0,v0),(12,v1),(13,vI (List.length p1:Int)),(14,vI (a6)),(34,vB (a12))]) (fun a12 b13=>[]) ?_ ?_
   ·refine aM<|qkMove rfl<|qkMove rfl<|qkMove rfl<|ckE h fun j15 h=>aB (aY rfl rfl (aC.fact 0 rfl) rfl rfl j15) rfl ?_
    refine aB (AV (i:=0) rfl rfl rfl rfl rfl (by decide)) rfl ?_
    refine aB (oU rfl (aC.fact 0 rfl) rfl rfl rfl yT j15) rfl<|qkLss rfl<|qkMove rfl ?_
    refine B_ h rfl (fun _ h=>?_) fun _ h=>?_
    ·refine gdSkip rfl<|gdSkip rfl<|gdSkip rfl<|gdSkip rfl<|gdSkip rfl<|gdSkip rfl<|gdSkip rfl<|qkPkT rfl<|dtN ?_
     exact jA (true) () h SF rfl
    refine gyMove rfl<|gyMove rfl<|gyMove rfl<|ckE h fun j17 h=>aO rfl (aY rfl rfl (aC.fact 0 rfl) rfl rfl j17) rfl ?_
    refine aO rfl (AV (i:=1) rfl rfl rfl rfl rfl (by decide)) rfl ?_
    refine aO rfl (oU rfl (aC.fact 0 rfl) rfl rfl rfl LG j17) rfl<|aO rfl (uN rfl rfl) rfl<|qkPkF rfl<|dtN ?_
    exact jA (decide (((at' p0 a6).2)<(at' p1 a6))) () h SF rfl
   intro a12 b13 h
   refine Ah h rfl (fun _ h=>?_) fun _ h=>?_
   ·refine sqR<|qkAsg rfl<|dtN<|aQ<|bH<|aG<|aG<|bH<|aG ?_
    cases h
    exact lF rfl
   refine cS<|inT<|aM<|qkAdd rfl<|qkMove rfl<|dtN ?_
   exact yB (wI .i64 (a6+(1:Int))) () h SF rfl
  refine vT ?_
  exact jA () (()) h SF rfl
 intro a2 b3 h
 unfold rV at h
 refine sqR<|qkAsg rfl<|dtN<|aQ ?_
 cases h
 exact lF rfl
end
section
def qD  (a2:Unit):Option (Bool):=
 some (true)
def nJ (U:Nat) (p0:dZ) (p1:a_) (a6:Int) (ag5:(Int)->Option (Bool)):Option (Bool):=
 if a6<(List.length p0:Int)then(ck (0<=a6∧a6<(List.length p0:Int)) (ck (0<=a6∧a6<(List.length p1:Int)) (Option.bind (s_ U (at' p0 a6) (at' p1 a6)) fun r12=>(if(!r12)=true then(some (false))else(ag5 (wI .i64 (a6+(1:Int))))))))else(qD  (()))
def rU (U:Nat) (p0:dZ) (p1:a_):Option (Bool):=
 if(List.length p1:Int)≠(List.length p0:Int)then(some (false))else(bD (nJ U p0 p1) U (0:Int))
theorem TR:aP Tryz.prog 109:=Tryz.call109
theorem EC (U:Nat) {p0:dZ} {p1:a_} (v0:Value)  (z1:nK)  (v2:Value)  (z3:qU) (r:Bool) (h:rU U p0 p1=some r):
  aU Tryz.prog 109 #[v0,v2] [S2 aW v0 z1 p0,S2 bL v2 z3 p1] (fun x:Unit=>vB (r)) (fun x l=>l) (fun _ l=>l):=by
 refine aU.of Tryz.func109 rfl Tryz.ntmps109 rfl fun c=>?_
 refine sqR<|qkAsg rfl<|dtN<|aH<|sqR<|qkMove rfl<|aB (hZ rfl (aC.fact 1 rfl) rfl) rfl<|qkMove rfl<|aB (hZ rfl (aC.fact 0 rfl) rfl) rfl<|qkNeq rfl<|dtN ?_
 refine eD h rfl (fun h=>?_) fun h=>?_
 ·refine sqR<|qkAsg rfl<|dtN<|aQ<|aG ?_
  cases h
  exact lF rfl
 refine cG<|aH<|midU (fun a2=>qD  a2=some r) (fun a2 b3=>[]) (fun a2 b3=>[]) ?_ ?_
 ·refine sqR<|qkMove rfl<|aB (hZ rfl (aC.fact 0 rfl) rfl) rfl<|qkMove rfl<|dtN<|aN<|loopL (nJ U p0 p1) (fun a6 b7=>[(1,v2),(12,v0),(13,vI (List.length p0:Int)),(14,vI (a6))]) (fun a6 b7=>[]) (0:Int) () h SF (aT.refl _) ?_
  intro k8 a6 b7 h
  refine sqR<|qkLss rfl<|dtN<|aH ?_
  refine eD h rfl (fun h=>?_) fun h=>?_
  ·refine cG<|aH<|aN<|sqR<|qkMove rfl<|ckE h fun j10 h=>aB (cI rfl rfl (aC.fact 0 rfl) rfl rfl j10) rfl<|aB (cJ rfl (aC.fact 0 rfl) rfl rfl j10) rfl<|qkAsg rfl<|qkAsg rfl<|dtN<|sqR<|qkMove rfl<|qkMove rfl<|qkMove rfl<|ckE h fun j11 h=>aB (cI rfl rfl (aC.fact 1 rfl) rfl rfl j11) rfl<|aB (cJ rfl (aC.fact 1 rfl) rfl rfl j11) rfl<|bnE h fun r12 w13 h=>aE (aI.callQ TZ (GB U ((at' z1 a6).1) ((at' z3 a6).1) r12 w13) rfl (aD.cons (aC.el (aC.fact 0 rfl) j10.1 j10.2) (aD.cons (aC.el (aC.fact 1 rfl) j11.1 j11.2) .nil))) rfl fun x14=>aB (qY rfl) rfl<|dtN ?_
   refine Ah h rfl (fun _ h=>?_) fun _ h=>?_
   ·refine sqR<|qkAsg rfl<|dtN<|aQ<|bH<|aG<|aG<|bH<|aG ?_
    cases h
    exact lF rfl
   refine cS<|inT<|aM<|qkAdd rfl<|qkMove rfl<|dtN ?_
   exact yB (wI .i64 (a6+(1:Int))) () h SF rfl
  refine vT ?_
  exact jA () (()) h SF rfl
 intro a2 b3 h
 unfold qD at h
 refine sqR<|qkAsg rfl<|dtN<|aQ ?_
 cases h
 exact lF rfl
end
section
def pQ (U:Nat) (p0:wX) (p1:dB) (p2:a_):Option (Int):=
 Option.bind (q_ U ((p0.1,p0.2.1,p0.2.2)) ((p1.1,p1.2))) fun r3=>(if r3≠(0:Int)then(some (r3))else(Option.bind (kV U ((p0.1,p0.2.1,p0.2.2)) ((p1.1,p1.2))) fun r7=>(Option.bind (rU U r7 p2) fun r10=>(if(!r10)=true then(some (10:Int))else(some (0:Int))))))
theorem WI:aP Tryz.prog 78:=Tryz.call78
theorem GA (U:Nat) {p0:wX} {p1:dB} {p2:a_} (v0:Value)  (v1:Value)  (v2:Value)  (v3:Value)  (z4:nK)  (v5:Value)  (z6:qU) (r:Int) (h:pQ U p0 p1 p2=some r):
  aU Tryz.prog 78 #[Value.agg #[vS (p0.1),v0,v1],Value.agg #[v2,v3],v5] [Sl aJ v0 p0.2.1,Sl aF v1 p0.2.2,PF (Value.agg #[vS p0.1,v0,v1]),Sl bL v2 p1.1,S2 aW v3 z4 p1.2,S2 bL v5 z6 p2] (fun x:Unit=>vI (r)) (fun x l=>l) (fun _ l=>l):=by
 refine aU.of Tryz.func78 rfl Tryz.ntmps78 rfl fun c=>?_
 refine sqR<|aE (aI.box (cs:=[vS (p0.1),v0,v1]) rfl rfl) rfl fun b1=>aE (aI.box (cs:=[v2,v3]) rfl rfl) rfl fun b2=>qkAsg rfl<|dtN<|aH<|sqR<|qkLdA 1 rfl<|qkLdA 0 rfl<|bnE h fun r3 w4 h=>aE (aI.callQ TQ (Ha U v0 v1 v2 v3 z4 r3 w4) rfl (nE [0,1,2,3,4] rfl)) rfl fun x5=>qkAsg rfl<|dtN<|sqR<|qkMove rfl<|qkNeq rfl<|dtN ?_
 refine eD h rfl (fun h=>?_) fun h=>?_
 ·refine sqR<|qkMove rfl<|qkAsg rfl<|dtN<|aQ<|aG ?_
  cases h
  exact uV rfl
 refine cG<|aH<|sqR<|qkLdA 1 rfl<|qkLdA 0 rfl<|bnE h fun r7 w8 h=>aE (aI.callQ QG (AL U v0 v1 v2 v3 z4 r7 w8) rfl (nE [0,1,2,3,4] rfl)) rfl fun x9=>qkMove rfl<|bnE h fun r10 w11 h=>aE (aI.callQ TR (EC U x9.1 (List.zip x9.2 r7) v5 z6 r10 w11) rfl (aD.cons (bA (i:=0) (j:=1) rfl rfl bK) (nE [5] rfl))) rfl fun x12=>aB (qY rfl) rfl<|dtN ?_
 refine Ah h rfl (fun _ h=>?_) fun _ h=>?_
 ·refine sqR<|qkAsg rfl<|dtN<|aQ<|aG ?_
  cases h
  exact uV rfl
 refine cG<|sqR<|qkAsg rfl<|dtN<|aQ ?_
 cases h
 exact uV rfl
end
section
def tB  (a5:a_):Option a_:=
 some (a5)
def pS (p0:a_) (a11:Int×a_) (ag10:(Int×a_)->Option a_):Option a_:=
 if a11.1<(List.length p0:Int)then(ck (0<=a11.1∧a11.1<(List.length p0:Int)) (ck ((List.length ([]:aL):Int)+(List.length (at' p0 a11.1):Int)<=1099511627) (ck (0<=a11.1∧a11.1<(List.length a11.2:Int)) (ag10 ((wI .i64 (a11.1+(1:Int))),(List.set a11.2 (Int.toNat a11.1) (([]:aL)++(at' p0 a11.1))))))))else(tB  (a11.2))
def rA (U:Nat) (p0:a_):Option a_:=
 ck (0<=(List.length p0:Int)∧(List.length p0:Int)<=1099511627) (bD (pS p0) U ((0:Int),(List.replicate (Int.toNat (List.length p0:Int)) ([]:aL))))
theorem Nb:aP Tryz.prog 110:=Tryz.call110
theorem BJ (U:Nat) {p0:a_} (v0:Value)  (z1:qU) (r:a_) (h:rA U p0=some r):
  aU Tryz.prog 110 #[v0] [S2 bL v0 z1 p0] (fun x:Value×List Value=>x.1) (fun x l=>Ar c_.raw x.1 x.2::jK bU x.2 r::l) (fun _ l=>l):=by
 refine aU.of Tryz.func110 rfl Tryz.ntmps110 rfl fun c=>?_
 refine sqR<|qkAsg rfl<|dtN<|sqR<|qkMove rfl<|aB (hZ rfl (aC.fact 0 rfl) rfl) rfl<|ckE h fun j1 h=>jM (uM bU (Int.toNat (List.length p0:Int)))<|aE (pI (e:=c_.raw) (lX) rfl rfl rfl rfl j1 rfl rfl rfl) rfl fun u2=>qkAsg rfl<|dtN<|aH<|midL (B:=gH) (fun a5=>tB  a5=some r) (fun a5 b6=>[(3,u2)]) (fun a5 b6=>[Ar c_.raw u2 b6,jK bU b6 a5]) ?_ ?_
 ·refine sqR<|qkMove rfl<|aB (hZ rfl (aC.fact 0 rfl) rfl) rfl<|qkMove rfl<|dtN<|aN<|loopL (B:=gH) (pS p0) (fun a11 b12=>[(3,u2),(9,v0),(10,vI (List.length p0:Int)),(11,vI (a11.1))]) (fun a11 b12=>[Ar c_.raw u2 b12,jK bU b12 a11.2]) ((0:Int),(List.replicate (Int.toNat (List.length p0:Int)) ([]:aL))) (List.replicate (Int.toNat (List.length p0:Int)) (lX)) h SF (aT.refl _) ?_
  intro k13 a11 b12 h
  refine sqR<|qkLss rfl<|dtN<|aH ?_
  refine eD h rfl (fun h=>?_) fun h=>?_
  ·refine cG<|aH<|aN<|sqR<|qkMove rfl<|ckE h fun j15 h=>aB (cI rfl rfl (aC.fact 0 rfl) rfl rfl j15) rfl<|aB (cJ rfl (aC.fact 0 rfl) rfl rfl j15) rfl<|qkAsg rfl<|qkAsg rfl<|dtN<|aM<|qkMove rfl<|qkMove rfl<|qkMove rfl<|jM (iI bU)<|ckE h fun j17 h=>aE (fP 0 cH rfl rfl rfl (aC.el (aC.fact 0 rfl) j15.1 j15.2) rfl rfl rfl rfl j17 rfl) rfl fun u16=>ckE h fun j18 h=>aB (cI rfl rfl (bA (i:=1) (j:=2) rfl rfl cH) rfl rfl j18) rfl<|bV (Know.one ((aR (aC.res 0 rfl) cH))) fun ho19=>jM (tP (k:=a11.1) 2 0 rfl rfl rfl j18) ?_
   refine nN 0 1 ⟨j18.1,by first|exact j18.2|simpa using j18.2⟩ rfl rfl rfl rfl rfl (by simp) ho19 rfl ?_
   refine dY<|inT<|aM<|qkAdd rfl<|qkMove rfl<|dtN ?_
   exact yB ((wI .i64 (a11.1+(1:Int))),(List.set a11.2 (Int.toNat a11.1) (([]:aL)++(at' p0 a11.1)))) (List.set b12 (Int.toNat a11.1) u16) h SF rfl
  refine vT ?_
  exact jA (a11.2) (b12) h SF rfl
 intro a5 b6 h
 unfold tB at h
 refine sqR<|qkMove rfl<|qkAsg rfl<|dtN<|aQ ?_
 cases h
 exact fO (u2,b6) rfl rfl (RV.tmp rfl) (aT.refl _) aD.nil
end
end Go.Proofs.YtigggfnchamobaaGreatDoor
end
section
namespace Go.Proofs.YtigggfnchamobaaGreatDoor
open Go Go.Sx
section
abbrev Dr:=ByteArray×(List EK)×(List vG)
structure BS (g:GR) (vars:List EK):Prop where
 len:vars.length<=20
 small:∀x,x<vars.length->Aq (at' vars (x:Int))
 kind:∀x,x<vars.length->(at' vars (x:Int)).2.1=1∨(at' vars (x:Int)).2.1=2∨(at' vars (x:Int)).2.1=3
 range:∀x,x<vars.length->(at' vars (x:Int)).2.1=1 -> -100000<=lo g (at' vars (x:Int)) 0∧lo g (at' vars (x:Int)) 0<=hi g (at' vars (x:Int)) 0∧hi g (at' vars (x:Int)) 0 - lo g (at' vars (x:Int)) 0+1<=4096
theorem Xw {g:GR} (hV:VG g):vX 1000 g.1=some (jR g g.1.length):=by
 have h24:=hV.n24
 have hlen:=hV.len
 have h1:=hV.n1
 have hid:0<=at' g.1 ((0:Nat):Int):=(hV.node 0 (by omega)).id.1
 unfold vX
 rw[if_neg (by omega),cL (by omega)]
 have:=dX (step:=rC g.1) (K:=some (jR g g.1.length)) (g.1.length - 1) (fun k=>(jR g (k+1),((k+1:Nat):Int))) (fun k ag hk=>by
  unfold rC
  dsimp only
  rw[if_pos (by omega),cL (by omega),eB (by omega)];rfl) (fun ag=>by
  unfold rC uF
  dsimp only
  rw[if_neg (by omega),show g.1.length - 1+1=g.1.length by omega]) 1000 (by omega)
 have e:jR g (0+1)=at' g.1 (0:Int):=by
  show max (jR g 0) (at' g.1 ((0:Nat):Int))=_
  simp only[jR]
  have:at' g.1 ((0:Nat):Int)=at' g.1 (0:Int):=rfl
  omega
 rw[e]at this
 exact this
theorem Ht {g:GR} (hV:VG g) {x:EK} (hs:Aq x) (hk:x.2.1=1∨x.2.1=2∨x.2.1=3) {v:Nat} (hv:v<g.2.length):gX 1000 x g (v:Int)=some (lo g x v,hi g x v):=by
 obtain⟨⟨s1,s2⟩,⟨s3,s4⟩,s5,s6⟩:=hs
 have h24:=hV.n24
 have hlen:=hV.len
 have hm:=Gf hV g.1.length (by omega)
 have p1:0<=x.2.2.2.2.1*(g.1.length:Int):=Int.mul_nonneg s3 (by omega)
 have p2:x.2.2.2.2.1*(g.1.length:Int)<=100000*24:=Int.mul_le_mul s4 (by omega) (by omega) (by omega)
 have p3:0<=x.2.2.2.2.2*jR g g.1.length:=Int.mul_nonneg s5 hm.1
 have p4:x.2.2.2.2.2*jR g g.1.length<=100000*255:=Int.mul_le_mul s6 hm.2 hm.1 (by omega)
 have b1:lT 1000 x g (v:Int)=some (x.2.2.1,x.2.2.2.1+x.2.2.2.2.1*(g.2.length:Int)+x.2.2.2.2.2*jR g g.1.length):=by
  unfold lT
  rw[bE (Xw hV),wr (x:=x.2.2.2.2.1*_) (by omega) (by omega),wr (x:=x.2.2.2.2.2*_) (by omega) (by omega),wr (x:=x.2.2.2.1+_) (by omega) (by omega),wr (by omega) (by omega),hlen]
 have b3:lU 1000 x g (v:Int)=some (-1,((row g v).length:Int) - 1):=by
  have hdeg:=(hV.node v hv).deg
  unfold lU
  rw[cL (by omega)]
  show some ((-1:Int),wI .i64 (((row g v).length:Int) - 1))=_
  rw[wr (by omega) (by omega)]
 have it:∀(f:Nat) (a:Int),bD (dC 1000 x g (v:Int)) (f+1) a=dC 1000 x g (v:Int) a (bD (dC 1000 x g (v:Int)) f):=fun f a=>rfl
 have st:∀(f:Nat) (a:Int),a=0∨a=1∨a=2->bD (dC 1000 x g (v:Int)) (f+1) a=if a=0 then(if 1=x.2.1 then lT 1000 x g (v:Int)else bD (dC 1000 x g (v:Int)) f 1)else if a=1 then(if 2=x.2.1 then pB 1000 x g (v:Int)else bD (dC 1000 x g (v:Int)) f 2)else(if 3=x.2.1 then lU 1000 x g (v:Int)else bD (dC 1000 x g (v:Int)) f 3):=by
  intro f a ha
  rw[it]
  generalize bD (dC 1000 x g (v:Int)) f=G
  unfold dC kG
  rcases ha with rfl|rfl|rfl
  ·rw[if_pos (by decide),cL (by decide),if_pos rfl,if_pos rfl]
   split
   ·rw[b1];rfl
   ·rfl
  ·rw[if_pos (by decide),cL (by decide),if_neg (show¬(1:Int)=0 by decide),if_pos rfl,if_neg (show¬(1:Int)=0 by decide),if_pos rfl]
   split
   ·rfl
   ·rfl
  ·rw[if_pos (by decide),cL (by decide),if_neg (show¬(2:Int)=0 by decide),if_neg (show¬(2:Int)=1 by decide),if_neg (show¬(2:Int)=0 by decide),if_neg (show¬(2:Int)=1 by decide)]
   split
   ·rw[b3];rfl
   ·rfl
 unfold gX lo hi
 rcases hk with h|h|h
 ·rw[st 999 0 (.inl rfl),if_pos rfl,if_pos h.symm,b1,h,if_neg (by decide),if_neg (by decide),if_neg (by decide),if_neg (by decide)]
 ·rw[st 999 0 (.inl rfl),if_pos rfl,if_neg (by omega),st 998 1 (.inr (.inl rfl)),if_neg (by decide),if_pos rfl,if_pos h.symm,h,if_pos rfl,if_pos rfl];rfl
 ·rw[st 999 0 (.inl rfl),if_pos rfl,if_neg (by omega),st 998 1 (.inr (.inl rfl)),if_neg (by decide),if_pos rfl,if_neg (by omega),st 997 2 (.inr (.inr rfl)),if_neg (by decide),if_neg (by decide),if_pos h.symm,b3,h,if_neg (by decide),if_pos rfl,if_neg (by decide),if_pos rfl]

def wA (g:GR) (vars:List EK) (v x:Nat):eY:=(lo g (at' vars (x:Int)) v,hi g (at' vars (x:Int)) v)
def Bq (g:GR) (vars:List EK) (v:Nat):eJ:=(List.range vars.length).map (wA g vars v)
def zQ (g:GR) (vars:List EK):dZ:=(List.range g.2.length).map (Bq g vars)
theorem AE {α:Type} [Inhabited α] (f:Nat->α) {n k:Nat} (h:k<n):at' ((List.range n).map f) (k:Int)=f k:=by
 rw[kK (by simpa using h)];simp
theorem uE {α:Type} (f:Nat->α) (z:α) (n k:Nat) (h:k<n):((List.range k).map f++List.replicate (n - k) z).set k (f k)=(List.range (k+1)).map f++List.replicate (n - (k+1)) z:=by
 rw[show n - k=(n - (k+1))+1 by omega,List.replicate_succ,List.set_append_right _ _ (by simp),List.range_succ]
 simp
theorem K_ {g:GR} (hV:VG g) {p:Dr} (hp:BS g p.2.1):kV 1000 p g=some (zQ g p.2.1):=by
 have h24:=hV.n24
 have hlen:=hV.len
 have hvl:=hp.len
 let vars:=p.2.1
 let Q:Nat->dZ:=fun k=>(List.range k).map (Bq g vars)++List.replicate (g.2.length - k) []
 have hQl:∀k,k<=g.2.length->(Q k).length=g.2.length:=fun k hk=>by simp[Q];omega
 let R:Nat->Nat->eJ:=fun k j=>(List.range j).map (wA g vars k)++List.replicate (vars.length - j) (0,0)
 have hRl:∀k j,j<=vars.length->(R k j).length=vars.length:=fun k j hj=>by simp[R];omega
 unfold kV
 rw[cL (by omega)]
 rw[show List.replicate (Int.toNat (g.1.length:Int)) ([]:eJ)=Q 0 by simp[Q,hlen]]
 refine dX (step:=jT 1000 p g) (K:=some (zQ g vars)) g.2.length (fun k=>((k:Int),Q k)) (fun k ag hk=> ?_) (fun ag=> ?_) 1000 (by omega)
 ·unfold jT
  dsimp only
  rw[if_pos (by simp;omega),cL (by omega),cL (by rw[hQl k (by omega)];omega)]
  refine Eq.trans (?_:_=bD (lH 1000 p g ((k:Int),Q k) ag) 1000 ((0:Int),(Q k).set k (R k 0))) ?_
  ·rw[Int.toNat_natCast,Int.toNat_natCast];simp[R,vars]
  refine dX (step:=lH 1000 p g ((k:Int),Q k) ag) (K:=ag (((k+1:Nat):Int),Q (k+1))) vars.length (fun j=>((j:Int),(Q k).set k (R k j))) (fun j ag2 hj=> ?_) (fun ag2=> ?_) 1000 (by show p.2.1.length<1000;omega)
  ·have hj':j<p.2.1.length:=hj
   have hb:=Ht hV (hp.small j hj) (hp.kind j hj) hk
   have hq:k<(Q k).length:=by rw[hQl k (by omega)];exact hk
   have a1:∀X:eJ,at' ((Q k).set k X) (k:Int)=X:=fun X=>by rw[xQ _ _ _ _ hq,if_pos rfl]
   have hRj:j<(R k j).length:=by rw[hRl k j (by omega)];exact hj
   unfold lH
   dsimp only
   rw[if_pos (by omega),cL (by omega),cL (by simp only[List.length_set];omega),cL (by simp only[List.length_set];omega),bE (show gX 1000 _ g (k:Int)=_ from hb),Int.toNat_natCast,Int.toNat_natCast]
   simp only[a1,List.set_set]
   rw[cL (by omega),cL (by simp only[List.length_set];omega),eB (by omega)]
   have:(R k j).set j (lo g (at' p.2.1 (j:Int)) k,hi g (at' p.2.1 (j:Int)) k)=R k (j+1):=uE (wA g vars k) (0,0) vars.length j hj
   rw[xQ _ _ _ _ hRj,if_pos rfl]
   dsimp only
   rw[this]
  ·unfold lH rO
   dsimp only
   rw[if_neg (show¬((vars.length:Nat):Int)<(p.2.1.length:Int)from Int.lt_irrefl _),eB (by omega)]
   have e1:R k vars.length=Bq g vars k:=by simp[R,Bq]
   have e2:(Q k).set k (Bq g vars k)=Q (k+1):=uE (Bq g vars) [] g.2.length k hk
   rw[e1,e2]
 ·unfold jT rM
  dsimp only
  rw[if_neg (by simp;omega)]
  simp[Q,zQ]
theorem UE {g:GR} (hV:VG g) {p:Dr} (hp:BS g p.2.1):q_ 1000 p g=some 0:=by
 have h1:=hV.n1
 have hvl:=hp.len
 unfold q_
 rw[bE (show xU 1000 _=some true from rfl),if_neg (by decide),bE (show e_ 1000 g=some true from(Bl g).1 hV),if_neg (by decide)]
 refine dX (step:=kO 1000 p g) (K:=some 0) p.2.1.length (fun k=>(k:Int)) (fun k ag hk=> ?_) (fun ag=> ?_) 1000 (by omega)
 ·unfold kO mX sT mX
  rw[if_pos (by omega),cL (by omega),eB (by omega)]
  by_cases hk1:(at' p.2.1 (k:Int)).2.1=1
  ·obtain⟨r1,r2,r3⟩:=hp.range k hk hk1
   have hb:=Ht hV (hp.small k hk) (hp.kind k hk) (v:=0) (by omega)
   rw[if_neg (by simpa using hk1),bE (show gX 1000 _ g (0:Int)=_ from hb)]
   dsimp only
   rw[if_neg (by omega),wr (x:=hi g (at' p.2.1 (k:Int)) 0 - lo g (at' p.2.1 (k:Int)) 0) (by omega) (by omega),wr (by omega) (by omega),if_neg (by rw[decide_eq_true_eq];omega)]
  ·rw[if_pos hk1]
 ·unfold kO sS
  rw[if_neg (by omega)]

theorem SG {g:GR} {vars:List EK} (hl:vars.length<=20) {v:Nat} {l:aL} (h1:l.length=vars.length) (h2:∀x,x<vars.length->lo g (at' vars (x:Int)) v<=at' l (x:Int)∧at' l (x:Int)<=hi g (at' vars (x:Int)) v):s_ 1000 (Bq g vars v) l=some true:=by
 have hr:(Bq g vars v).length=vars.length:=by simp[Bq]
 unfold s_
 rw[if_neg (by rw[hr,h1];simp)]
 refine dX (step:=lJ (Bq g vars v) l) (K:=some true) l.length (fun k=>(k:Int)) (fun k ag hk=> ?_) (fun ag=> ?_) 1000 (by omega)
 ·have hc:at' (Bq g vars v) (k:Int)=wA g vars v k:=AE _ (by omega)
  have:=h2 k (by omega)
  unfold lJ rW
  rw[if_pos (by omega),cL (by omega),cL (by omega),hc]
  rw[if_neg (show¬at' l (k:Int)<(wA g vars v k).1 from Int.not_lt.2 this.1),cL (by omega),if_neg (by rw[decide_eq_true_eq];exact Int.not_lt.2 this.2),eB (by omega)]
 ·unfold lJ rV
  rw[if_neg (by omega)]
theorem QM {g:GR} (hV:VG g) {p:Dr} (hp:BS g p.2.1) {c:a_} (hc:Lt g c p.2.1):pQ 1000 p g c=some 0:=by
 have h24:=hV.n24
 have ht:(zQ g p.2.1).length=g.2.length:=by simp[zQ]
 have hcl:=hc.len
 unfold pQ
 rw[bE (show q_ 1000 _ _=some 0 from UE hV hp),if_neg (by decide),bE (show kV 1000 _ _=_ from K_ hV hp)]
 have:rU 1000 (zQ g p.2.1) c=some true:=by
  unfold rU
  rw[if_neg (by rw[ht,hcl];simp)]
  refine dX (step:=nJ 1000 (zQ g p.2.1) c) (K:=some true) g.2.length (fun k=>(k:Int)) (fun k ag hk=> ?_) (fun ag=> ?_) 1000 (by omega)
  ·have hr:at' (zQ g p.2.1) (k:Int)=Bq g p.2.1 k:=AE _ hk
   unfold nJ
   rw[if_pos (by omega),cL (by omega),cL (by omega),hr,bE (SG hp.len (hc.row k hk) (hc.ok k hk)),if_neg (by decide),eB (by omega)]
  ·unfold nJ qD
   rw[if_neg (by omega)]
 rw[bE this,if_neg (by decide)]
theorem Np (c:a_) (h:c.length<=900) (hr:∀v,v<c.length->(at' c (v:Int)).length<=1000):rA 1000 c=some c:=by
 unfold rA
 rw[cL (by omega)]
 let Q:Nat->a_:=fun k=>(List.range k).map (fun v:Nat=>at' c (v:Int))++List.replicate (c.length - k) []
 rw[show List.replicate (Int.toNat (c.length:Int)) ([]:aL)=Q 0 by simp[Q]]
 refine dX (step:=pS c) (K:=some c) c.length (fun k=>((k:Int),Q k)) (fun k ag hk=> ?_) (fun ag=> ?_) 1000 (by omega)
 ·have hQ:(Q k).length=c.length:=by simp[Q];omega
  have:=hr k hk
  unfold pS
  dsimp only
  rw[if_pos (by omega),cL (by omega),cL (by simp;omega),cL (by omega),eB (by omega),Int.toNat_natCast,List.nil_append]
  have:(Q k).set k (at' c (k:Int))=Q (k+1):=uE (fun v:Nat=>at' c (v:Int)) [] c.length k hk
  rw[this]
 ·unfold pS tB
  dsimp only
  rw[if_neg (by omega)]
  congr 1
  refine List.ext_getElem (by simp[Q]) fun i h1 h2=> ?_
  simp[Q,kK h2]
end
section
def Vo (x:Int):Int:=max (-1073741824) (min x 1073741824)
def unD (o x:Int):Int:=if o=18 then wI .i64 (0 - x)else Dv (decide (x=0))
def Vf (a b:Int):Int:=if b=0 then 0 else if Int.tmod a b≠0∧((decide (a<0)) != (decide (b<0)))=true then wI .i64 (wI .i64 (Int.tdiv a b) - 1)else wI .i64 (Int.tdiv a b)
def WS (o x y:Int):Bool:=if o=35 then decide (x=y)else if o=36 then decide (x≠y)else if o=37 then decide (x<y)else if o=38 then decide (x<=y)else if o=39 then decide (y<x)else decide (y<=x)
def ZM (o x y:Int):Int:=
 if o=30 then Vo (wI .i64 (x*y))else if o=31 then Vo (Vf x y)else if o=32 then(if y=0 then 0 else Vo (wI .i64 (x - wI .i64 (y*Vf x y))))else if o=33 then Vo (wI .i64 (x+y))else if o=34 then Vo (wI .i64 (x - y))
 else if o=41 then Dv (decide (x≠0)&&decide (y≠0))else if o=42 then Dv (decide (x≠0)||decide (y≠0))else Dv (WS o x y)
theorem SJ (f:Nat) (o x:Int):vW f o x=some (unD o x):=by
 unfold vW unD
 split
 ·rfl
 ·rw[bE (rF f _)]
theorem Sq (f:Nat) (a b:Int):oF f a b=some (Vf a b):=by
 unfold oF Vf
 by_cases hb:b=0
 ·rw[if_pos hb,if_pos hb]
 ·rw[if_neg hb,if_neg hb,cL hb,cL hb]
  by_cases h1:Int.tmod a b=0
  ·rw[if_neg (by simpa using h1),if_neg (by simp[h1])];rfl
  ·rw[if_pos h1]
   unfold qB m_
   by_cases h2:((decide (a<0)) != (decide (b<0)))=true
   ·rw[if_pos h2,if_pos ⟨h1,h2⟩]
   ·rw[if_neg h2,if_neg (fun q=>h2 q.2)]
theorem WU (f:Nat) (o x y:Int):rT f o x y=some (WS o x y):=by
 unfold rT WS
 repeat' split
 all_goals rfl
theorem OC (f:Nat) (o x y:Int):uD f o x y=some (ZM o x y):=by
 unfold uD ZM
 by_cases h:o=30
 ·rw[if_pos h,if_pos h];rfl
 rw[if_neg h,if_neg h]
 by_cases h:o=31
 ·rw[if_pos h,if_pos h,bE (Sq f x y)];rfl
 rw[if_neg h,if_neg h]
 by_cases h:o=32
 ·rw[if_pos h,if_pos h]
  by_cases hy:y=0
  ·rw[if_pos hy,if_pos hy]
  ·rw[if_neg hy,if_neg hy,bE (Sq f x y)];rfl
 rw[if_neg h,if_neg h]
 by_cases h:o=33
 ·rw[if_pos h,if_pos h];rfl
 rw[if_neg h,if_neg h]
 by_cases h:o=34
 ·rw[if_pos h,if_pos h];rfl
 rw[if_neg h,if_neg h]
 by_cases h:o=41
 ·rw[if_pos h,if_pos h]
  by_cases hx:x=0
  ·rw[if_neg (by simpa using hx),bE (rF f _)];simp[hx,mY]
  ·rw[if_pos hx,bE (rF f _)];simp[hx,mY]
 rw[if_neg h,if_neg h]
 by_cases h:o=42
 ·rw[if_pos h,if_pos h]
  by_cases hx:x=0
  ·rw[if_neg (by simpa using hx),bE (rF f _)];simp[hx,mZ]
  ·rw[if_pos hx,bE (rF f _)];simp[hx,mZ]
 rw[if_neg h,if_neg h,bE (WU f o x y),bE (rF f _)]
def E.den (L:Int->Int->Int->Int) (deg:Nat):E->Int->Int
 |lf o a,p=>L o a p
 |un o x,p=>unD o (x.den L deg p)
 |ag o x,_=>Nu o ((List.range deg).map fun q=>x.den L deg ((q:Nat):Int))
 |bi o x y,p=>ZM o (x.den L deg p) (y.den L deg p)
 |ite x y z,p=>if x.den L deg p≠0 then y.den L deg p else z.den L deg p
def E.wf (nv:Nat):Bool->E->Bool
 |b,lf o a=>decide (1<=o)&&decide (o<=16)&&(b||decide (o<=10))&&((decide (o≠5)&&decide (o≠12))||(decide (0<=a)&&decide (a<(nv:Int))))
 |b,un o x=>decide (18<=o)&&decide (o<=19)&&x.wf nv b
 |_,ag o x=>(decide (o=20)||decide (o=21)||decide (o=22)||decide (o=23)||decide (o=24)||decide (o=27))&&x.wf nv true
 |b,bi o x y=>decide (30<=o)&&decide (o<=42)&&x.wf nv b&&y.wf nv b
 |b,ite x y z=>x.wf nv b&&y.wf nv b&&z.wf nv b
theorem Tm {nv:Nat}:∀{e:E} {b:Bool},e.wf nv b=true->e.arOk=true:=by
 intro e
 induction e with
 |lf o a=>intro b h;simp[E.wf,E.arOk]at h ⊢;omega
 |un o x ih=>intro b h;simp[E.wf,E.arOk]at h ⊢;exact⟨h.1,ih h.2⟩
 |ag o x ih=>intro b h;simp[E.wf,E.arOk]at h ⊢;exact⟨by omega,ih h.2⟩
 |bi o x y ihx ihy=>intro b h;simp[E.wf,E.arOk]at h ⊢;exact⟨⟨h.1.1,ihx h.1.2⟩,ihy h.2⟩
 |ite x y z ihx ihy ihz=>intro b h;simp[E.wf,E.arOk]at h ⊢;exact⟨⟨ihx h.1.1,ihy h.1.2⟩,ihz h.2⟩
def RX (W:YA) (p:Int):Int:=(at' (at' W.1.2.1.2 W.2.2.1) p).1
def VP (W:YA) (o a p:Int):Int:=
 if o=1 then a else if o=2 then 1 else if o=3 then 0 else if o=4 then -1 else if o=5 then at' (at' W.2.1 W.2.2.1) a else if o=12 then at' (at' W.2.1 (RX W p)) a
 else if o=6 then(W.1.2.1.1.length:Int)else if o=7 then W.1.2.2.1 else if o=8 then at' W.1.2.1.1 W.2.2.1 else if o=9 then((at' W.1.2.1.2 W.2.2.1).length:Int)else if o=10 then Dv (decide (W.2.2.1=0))else if o=11 then p
 else if o=13 then at' W.1.2.1.1 (RX W p)else if o=14 then((at' W.1.2.1.2 (RX W p)).length:Int)else if o=15 then Dv (decide (RX W p=0))else(at' (at' W.1.2.1.2 W.2.2.1) p).2
structure ZJ (W:YA) (nv n v:Nat):Prop where
 node:W.2.2.1=(v:Int)
 lt:v<n
 ports:W.1.2.1.2.length=n
 ids:W.1.2.1.1.length=n
 c:W.2.1.length=n
 row:∀u:Nat,u<n->(at' W.2.1 (u:Int)).length=nv
 to:∀u:Nat,u<n->∀i:Nat,i<(at' W.1.2.1.2 (u:Int)).length->0<=(at' (at' W.1.2.1.2 (u:Int)) (i:Int)).1∧(at' (at' W.1.2.1.2 (u:Int)) (i:Int)).1<(n:Int)
def Qe (b:Bool) (deg:Nat) (p:Int):Prop:=b=true->∃q:Nat,p=(q:Int)∧q<deg
theorem UT {W:YA} {nv n v:Nat} (h:ZJ W nv n v) (f:Nat) {b:Bool} {o a p:Int} (hw:(E.lf o a).wf nv b=true) (hp:Qe b (at' W.1.2.1.2 (v:Int)).length p):jX f W (o,a) p=some (VP W o a p):=by
 obtain⟨hv,hlt,h1,h2,h3,h4,h5⟩:=h
 simp only[E.wf,Bool.and_eq_true,Bool.or_eq_true,decide_eq_true_eq]at hw
 obtain⟨⟨⟨w1,w2⟩,w3⟩,w4⟩:=hw
 have hvr:(at' W.2.1 (v:Int)).length=nv:=h4 v hlt
 unfold jX VP RX
 dsimp only
 rw[hv]
 by_cases e:o=1
 ·simp only[if_pos e]
 simp only[if_neg e]
 by_cases e:o=2
 ·simp only[if_pos e]
 simp only[if_neg e]
 by_cases e:o=3
 ·simp only[if_pos e]
 simp only[if_neg e]
 by_cases e:o=4
 ·simp only[if_pos e]
 simp only[if_neg e]
 by_cases e:o=5
 ·simp only[if_pos e]
  rw[cL (by omega),cL (by omega)]
 simp only[if_neg e]
 by_cases e:o=12
 ·have hb:b=true:=by
   rcases w3 with w3|w3
   ·exact w3
   ·omega
  obtain⟨q,rfl,hq⟩:=hp hb
  have h6:=h5 v hlt q hq
  obtain⟨u,hu⟩:∃u:Nat,(at' (at' W.1.2.1.2 (v:Int)) (q:Int)).1=(u:Int):=⟨_,(Int.toNat_of_nonneg h6.1).symm⟩
  simp only[if_pos e]
  rw[hu]at h6 ⊢
  have h7:=h4 u (by omega)
  rw[cL (by omega),cL (by omega),cL (by omega),cL (by omega)]
 simp only[if_neg e]
 unfold pN
 dsimp only
 by_cases e:o=6
 ·simp only[if_pos e];rfl
 simp only[if_neg e]
 by_cases e:o=7
 ·simp only[if_pos e];rfl
 simp only[if_neg e]
 by_cases e:o=8
 ·simp only[if_pos e]
  rw[cL (by omega)];rfl
 simp only[if_neg e]
 by_cases e:o=9
 ·simp only[if_pos e]
  rw[cL (by omega)];rfl
 simp only[if_neg e]
 by_cases e:o=10
 ·simp only[if_pos e]
  rw[bE (rF f _)];rfl
 simp only[if_neg e]
 by_cases e:o=11
 ·simp only[if_pos e];rfl
 simp only[if_neg e]
 have hb:b=true:=by
  rcases w3 with w3|w3
  ·exact w3
  ·omega
 obtain⟨q,rfl,hq⟩:=hp hb
 have h6:=h5 v hlt q hq
 rw[cL (by omega),cL (by omega)]
 by_cases e:o=13
 ·simp only[if_pos e]
  rw[cL (by omega)];rfl
 simp only[if_neg e]
 by_cases e:o=14
 ·simp only[if_pos e]
  rw[cL (by omega)];rfl
 simp only[if_neg e]
 by_cases e:o=15
 ·simp only[if_pos e]
  rw[bE (rF f _)];rfl
 simp only[if_neg e]
 by_cases e:o=16
 ·simp only[if_pos e];rfl
 omega
theorem Tc {W:YA} {nv n v:Nat} (h:ZJ W nv n v) {deg:Nat} (hdeg:(at' W.1.2.1.2 (v:Int)).length=deg) (hd24:deg<=24) (hT9:W.2.2.2.length<=800):
  ∀(e:E) (b:Bool) (fuel k:Nat) (p:Int) (pre post:eJ),W.2.2.2=pre++(e.ts++post)->pre.length=k->e.wf nv b=true->Qe b deg p->e.depth+850<=fuel->
   bI fuel W (k:Int) p=some (e.den (VP W) deg p,(((k+e.ts.length:Nat)):Int)):=by
 obtain⟨hv,hlt,h1,h2,h3,h4,h5⟩:=id h
 have start:∀{t:eY} {l pre post:eJ} {k:Nat},W.2.2.2=pre++((t::l)++post)->pre.length=k->at' W.2.2.2 (k:Int)=t∧(k:Int)<(W.2.2.2.length:Int):=by
  intro t l pre post k hT hk
  refine⟨Iu (rest:=l++post) (by simpa using hT) hk,?_⟩
  rw[hT];simp;omega
 intro e
 induction e with
 |lf o a=>
  intro b fuel k p pre post hT hk hw hp hf
  obtain⟨fuel,rfl⟩:∃f,fuel=f+1:=⟨fuel - 1,by omega⟩
  obtain⟨ht,hlk⟩:=start (l:=[]) hT hk
  show b_ (bI fuel) fuel W (k:Int) p=_
  unfold b_
  rw[cL ⟨by omega,hlk⟩,ht]
  dsimp only
  have hw':=hw
  simp only[E.wf,Bool.and_eq_true,Bool.or_eq_true,decide_eq_true_eq]at hw'
  have hl:=UT h fuel hw (hdeg▸hp)
  rw[if_pos (by omega),bE (show jX fuel _ (o,a) p=some (VP W o a p)from hl),eB (by omega)]
  rfl
 |un o x ih=>
  intro b fuel k p pre post hT hk hw hp hf
  obtain⟨fuel,rfl⟩:∃f,fuel=f+1:=⟨fuel - 1,by omega⟩
  obtain⟨ht,hlk⟩:=start (l:=x.ts) hT hk
  show b_ (bI fuel) fuel W (k:Int) p=_
  unfold b_
  rw[cL ⟨by omega,hlk⟩,ht]
  dsimp only
  simp only[E.wf,Bool.and_eq_true,decide_eq_true_eq]at hw
  simp only[E.depth]at hf
  have hx:=ih b fuel (k+1) p (pre++[(o,0)]) post (by rw[hT];simp[E.ts]) (by simp[hk]) hw.2 hp (by omega)
  rw[if_neg (by omega),if_pos (by omega),eB (by omega),bE (show bI fuel _ _ p=_ from hx),bE (SJ fuel _ _)]
  simp only[E.den,E.ts,List.length_cons]
  rw[show k+1+x.ts.length=k+(x.ts.length+1) by omega]
 |bi o x y ihx ihy=>
  intro b fuel k p pre post hT hk hw hp hf
  obtain⟨fuel,rfl⟩:∃f,fuel=f+1:=⟨fuel - 1,by omega⟩
  obtain⟨ht,hlk⟩:=start (l:=x.ts++y.ts) hT hk
  show b_ (bI fuel) fuel W (k:Int) p=_
  unfold b_
  rw[cL ⟨by omega,hlk⟩,ht]
  dsimp only
  simp only[E.wf,Bool.and_eq_true,decide_eq_true_eq]at hw
  simp only[E.depth]at hf
  have hx:=ihx b fuel (k+1) p (pre++[(o,0)]) (y.ts++post) (by rw[hT];simp[E.ts]) (by simp[hk]) hw.1.2 hp (by omega)
  have hy:=ihy b fuel (k+1+x.ts.length) p (pre++(o,0)::x.ts) post (by rw[hT];simp[E.ts]) (by simp[hk];omega) hw.2 hp (by omega)
  rw[if_neg (by omega),if_neg (by omega),if_neg (by omega),if_pos (by omega),eB (by omega),bE (show bI fuel _ _ p=_ from hx),bE (show bI fuel _ _ p=_ from hy),bE (OC fuel _ _ _)]
  simp only[E.den,E.ts,List.length_cons,List.length_append]
  rw[show k+1+x.ts.length+y.ts.length=k+(x.ts.length+y.ts.length+1) by omega]
 |ite x y z ihx ihy ihz=>
  intro b fuel k p pre post hT hk hw hp hf
  obtain⟨fuel,rfl⟩:∃f,fuel=f+1:=⟨fuel - 1,by omega⟩
  obtain⟨ht,hlk⟩:=start (l:=x.ts++(y.ts++z.ts)) hT hk
  show b_ (bI fuel) fuel W (k:Int) p=_
  unfold b_
  rw[cL ⟨by omega,hlk⟩,ht]
  dsimp only
  simp only[E.wf,Bool.and_eq_true]at hw
  simp only[E.depth]at hf
  have hx:=ihx b fuel (k+1) p (pre++[(43,0)]) (y.ts++z.ts++post) (by rw[hT];simp[E.ts]) (by simp[hk]) hw.1.1 hp (by omega)
  have hy:=ihy b fuel (k+1+x.ts.length) p (pre++(43,0)::x.ts) (z.ts++post) (by rw[hT];simp[E.ts]) (by simp[hk];omega) hw.1.2 hp (by omega)
  have hz:=ihz b fuel (k+1+x.ts.length+y.ts.length) p (pre++(43,0)::(x.ts++y.ts)) post (by rw[hT];simp[E.ts]) (by simp[hk];omega) hw.2 hp (by omega)
  rw[if_neg (by decide),if_neg (by decide),if_neg (by decide),if_neg (by decide),eB (by omega),bE (show bI fuel _ _ p=_ from hx),bE (show bI fuel _ _ p=_ from hy),bE (show bI fuel _ _ p=_ from hz)]
  simp only[E.den,E.ts,List.length_cons,List.length_append]
  rw[show k+1+x.ts.length+y.ts.length+z.ts.length=k+(x.ts.length+(y.ts.length+z.ts.length)+1) by omega]
  split<;>rfl
 | ag o x ih =>
  intro b fuel k p pre post hT hk hw hp hf
  obtain⟨fuel,rfl⟩:∃f,fuel=f+1:=⟨fuel - 1,by omega⟩
  obtain⟨ht,hlk⟩:=start (l:=x.ts) hT hk
  have har:=Tm hw
  have hwx:=hw
  simp only[E.wf,Bool.and_eq_true,Bool.or_eq_true,decide_eq_true_eq]at hwx
  simp only[E.depth]at hf
  have hts:(E.ag o x).ts.length=x.ts.length+1:=rfl
  have hlen:=congrArg List.length hT
  simp only[List.length_append]at hlen
  show b_ (bI fuel) fuel W (k:Int) p=_
  unfold b_
  rw[cL ⟨by omega,hlk⟩,ht]
  dsimp only
  rw[if_neg (by omega),if_neg (by omega),if_pos (by omega),cL (by omega)]
  let D:Nat->Int:=fun q=>x.den (VP W) deg ((q:Nat):Int)
  let V:Nat->aL:=fun q=>(List.range q).map D++List.replicate (24 - q) 0
  have hVl:∀q,q<=24->(V q).length=24:=fun q hq=>by simp[V];omega
  have hset:∀q,q<24->(V q).set q (D q)=V (q+1):=fun q hq=>by
   show((List.range q).map D++List.replicate (24 - q) 0).set q (D q)=(List.range (q+1)).map D++List.replicate (24 - (q+1)) 0
   rw[show 24 - q=(24 - (q+1))+1 by omega,List.replicate_succ,List.set_append_right _ _ (by simp),List.range_succ]
   simp
  let N:Nat->Int:=fun q=>if q=0 then 0 else(((k+1+x.ts.length:Nat)):Int)
  refine Eq.trans (dX (step:=iC fuel W (k:Int) (bI fuel)) (K:=some ((E.ag o x).den (VP W) deg p,(((k+(E.ag o x).ts.length:Nat)):Int))) deg (fun q=>(N q,(q:Int),V q)) (fun q ag hq=> ?_) (fun ag=> ?_) fuel (by omega)) rfl
  ·unfold iC
   dsimp only
   have hx:=ih true fuel (k+1) ((q:Nat):Int) (pre++[(o,0)]) post (by rw[hT];simp[E.ts]) (by simp[hk]) hwx.2 (fun _=>⟨q,rfl,hq⟩) (by omega)
   rw[if_pos (by rw[hv,hdeg];omega),eB (by omega),bE (show bI fuel _ _ _=_ from hx),cL ⟨by omega,hVl q (by omega)⟩,eB (by omega),Int.toNat_natCast]
   show ag (_,_,(V q).set q (D q))=_
   rw[hset q (by omega)]
   simp only[N]
   rw[if_neg (by omega)]
  ·unfold iC
   dsimp only
   rw[if_neg (by rw[hv,hdeg];omega)]
   have hfold:List.take deg (V deg)=(List.range deg).map D:=by
    show List.take deg ((List.range deg).map D++_)=_
    exact List.take_left' (by simp)
   have fin:∀y:Int,y=(((k+1+x.ts.length:Nat)):Int)->iB fuel W (k:Int) (N deg,V deg) y=some ((E.ag o x).den (VP W) deg p,(((k+(E.ag o x).ts.length:Nat)):Int)):=by
    rintro y rfl
    unfold iB
    dsimp only
    rw[hv,hdeg,cL ⟨by omega,by omega,by rw[hVl deg hd24];omega⟩,ht,Int.toNat_natCast,hfold,bE (UF fuel o _ (by omega) (by simp;omega) (by omega))]
    unfold lA
    rw[hts,show k+1+x.ts.length=k+(x.ts.length+1) by omega]
    rfl
   unfold oS
   dsimp only
   by_cases h0:deg=0
   ·rw[if_pos (by rw[hv,hdeg];omega),bE (W_ fuel (E.ag o x) har hT hk hT9 (by omega))]
    exact fin _ (by rw[hts];omega)
   ·rw[if_neg (by rw[hv,hdeg];omega)]
    exact fin _ (by simp only[N];rw[if_neg h0])
end
end Go.Proofs.YtigggfnchamobaaGreatDoor
end
section
namespace Go.Proofs.YtigggfnchamobaaGreatDoor
open Go.Sx
section
def eI (U:Nat) (p0:Px) (p1:a_) (p2:Int) (p3:eJ):Option (Int):=
 Option.bind (bI U ((((((p0.1.1,p0.1.2.1,p0.1.2.2)),((p0.2.1.1,p0.2.1.2)),p0.2.2.1,p0.2.2.2)),p1,p2,p3)) (0:Int) (-1:Int)) fun r6=>(some (r6.1))
theorem Ni:aP Tryz.prog 144:=Tryz.call144
theorem tK (U:Nat) {p0:Px} {p1:a_} {p2:Int} {p3:eJ} (bx0:Nat)  (v1:Value)  (v2:Value)  (v3:Value)  (v4:Value)  (z5:nK)  (v6:Value)  (z7:qU)  (v8:Value)  (z9:qU)  (v10:Value) (r:Int) (h:eI U p0 p1 p2 p3=some r):
  aU Tryz.prog 144 #[vP bx0,v8,vI (p2),v10] [bM bx0 [vS (p0.1.1),v1,v2,v3,v4,vI (p0.2.2.1),v6] 178,Sl aJ v1 p0.1.2.1,Sl aF v2 p0.1.2.2,Sl bL v3 p0.2.1.1,S2 aW v4 z5 p0.2.1.2,S2 bL v6 z7 p0.2.2.2,S2 bL v8 z9 p1,Sl aW v10 p3] (fun x:Unit=>vI (r)) (fun x l=>l) (fun _ l=>l):=by
 refine aU.of Tryz.func144 rfl Tryz.ntmps144 rfl fun c=>?_
 refine sqR<|qkAsg rfl<|dtN<|sqR<|qkMove rfl<|qkMove rfl<|qkMove rfl<|qkMove rfl<|bV (Know.one (aC.sl (aC.fact 6 rfl))) fun ho1=>bV (Know.one ((aC.fact 7 rfl))) fun ho2=>?_
 refine aB (Wj (r:=Value.agg #[Value.pointer (some ⟨bx0,0,none⟩),v8,vI (p2),v10]) rfl rfl rfl rfl (by intro w;simp[Instr.build,Instr.fill,dU,cX,cK,dV,dW,cY,eP,iS ho1,iS ho2])) rfl ?_
 refine aE (aI.alloc (cs:=[Value.pointer none,lX,vI (0:Int),lX]) rfl rfl) rfl fun b3=>bV (Know.one (aC.sl (aC.fact 6 rfl))) fun ho4=>bV (Know.one ((aC.fact 7 rfl))) fun ho5=>bF 0 (vs:=[vP bx0,v8,vI (p2),v10]) rfl rfl (cM rfl (cM ho4 (cM rfl (cM ho5 rfl)))) rfl rfl rfl<|dtN<|sqR<|bnE h fun r6 w7 h=>aE (aI.callQ xB (AI U b3 bx0 v1 v2 v3 v4 z5 v6 z7 v8 z9 v10 r6 w7) rfl (aD.cons (aC.res 0 rfl) (nE [0,1,2,3,4,5,6,7] rfl))) rfl fun x8=>qkMove rfl<|qkExt rfl<|qkExt rfl<|qkAsg rfl<|qkAsg rfl<|dtN<|sqR<|qkMove rfl<|qkAsg rfl<|dtN<|aQ ?_
 cases h
 exact uV rfl
end
section
def iH (U:Nat) (p0:Px) (p1:a_) (p2:Int) (p3:Int):Option (Bool):=
 ck (0<=p3∧p3<(List.length p0.1.2.2:Int)) (Option.bind (eI U ((((p0.1.1,p0.1.2.1,p0.1.2.2)),((p0.2.1.1,p0.2.1.2)),p0.2.2.1,p0.2.2.2)) p1 p2 ((at' p0.1.2.2 p3).2.1.2)) fun r2=>(some (decide (r2≠(0:Int)))))
theorem TX:aP Tryz.prog 118:=Tryz.call118
theorem Ai (U:Nat) {p0:Px} {p1:a_} {p2:Int} {p3:Int} (bx0:Nat)  (v1:Value)  (v2:Value)  (v3:Value)  (v4:Value)  (z5:nK)  (v6:Value)  (z7:qU)  (v8:Value)  (z9:qU) (r:Bool) (h:iH U p0 p1 p2 p3=some r):
  aU Tryz.prog 118 #[vP bx0,v8,vI (p2),vI (p3)] [bM bx0 [vS (p0.1.1),v1,v2,v3,v4,vI (p0.2.2.1),v6] 178,Sl aJ v1 p0.1.2.1,Sl aF v2 p0.1.2.2,Sl bL v3 p0.2.1.1,S2 aW v4 z5 p0.2.1.2,S2 bL v6 z7 p0.2.2.2,S2 bL v8 z9 p1] (fun x:Unit=>vB (r)) (fun x l=>l) (fun _ l=>l):=by
 refine aU.of Tryz.func118 rfl Tryz.ntmps118 rfl fun c=>?_
 refine sqR<|qkAsg rfl<|dtN<|sqR<|qkMove rfl<|qkMove rfl<|qkMove rfl<|qkMove rfl<|aB (bO rfl) rfl<|qkFld rfl<|qkFld rfl<|aB (cT rfl (aC.fact 0 rfl) rfl rfl rfl) rfl<|qkMove rfl<|ckE h fun j1 h=>aB (aY rfl rfl (aC.fact 2 rfl) rfl rfl j1) rfl<|aB (mR rfl rfl rfl rfl rfl) rfl<|aB (oU rfl (aC.fact 2 rfl) rfl rfl rfl vL j1) rfl<|bnE h fun r2 w3 h=>aE (aI.callQ Ni (tK U bx0 v1 v2 v3 v4 z5 v6 z7 v8 z9 ((at' p0.1.2.2 p3).2.1.1) r2 w3) rfl (aD.cons (aC.fact 0 rfl) (aD.cons (aC.fact 1 rfl) (aD.cons (aC.fact 2 rfl) (aD.cons (aC.fact 3 rfl) (aD.cons (aC.fact 4 rfl) (aD.cons (aC.fact 5 rfl) (aD.cons (aC.fact 6 rfl) (aD.cons (sE (aC.fact 2 rfl) vN j1.1 j1.2) .nil))))))))) rfl fun x4=>qkNeq rfl<|qkAsg rfl<|dtN<|aQ ?_
 cases h
 exact lF rfl
end
section
def lC  (a1:Unit):Option (Int):=
 some (-1:Int)
def iF (U:Nat) (p0:D_) (p1:a_) (p2:Int) (a5:Int) (ag4:(Int)->Option (Int)):Option (Int):=
 if a5<(List.length p0.1.2.2:Int)then(Option.bind (iH U ((((p0.2.1.1.1,p0.2.1.1.2.1,p0.2.1.1.2.2)),((p0.2.1.2.1.1,p0.2.1.2.1.2)),p0.2.1.2.2.1,p0.2.1.2.2.2)) p1 p2 a5) fun r9=>(if r9=true then(some (a5))else(ag4 (wI .i64 (a5+(1:Int))))))else(lC  (()))
def dK (U:Nat) (p0:D_) (p1:a_) (p2:Int):Option (Int):=
 bD (iF U p0 p1 p2) U (0:Int)
theorem QI:aP Tryz.prog 88:=Tryz.call88
theorem uT (U:Nat) {p0:D_} {p1:a_} {p2:Int} (bx0:Nat)  (v1:Value)  (v2:Value)  (bx3:Nat)  (v4:Value)  (v5:Value)  (v6:Value)  (v7:Value)  (z8:nK)  (v9:Value)  (z10:qU)  (v11:Value)  (z12:nK)  (v13:Value)  (z14:qU) (r:Int) (h:dK U p0 p1 p2=some r):
  aU Tryz.prog 88 #[vP bx0,v13,vI (p2)] [bM bx0 [vS (p0.1.1),v1,v2,vP bx3,v11] 140,Sl aJ v1 p0.1.2.1,Sl aF v2 p0.1.2.2,bM bx3 [vS (p0.2.1.1.1),v4,v5,v6,v7,vI (p0.2.1.2.2.1),v9] 178,Sl aJ v4 p0.2.1.1.2.1,Sl aF v5 p0.2.1.1.2.2,Sl bL v6 p0.2.1.2.1.1,S2 aW v7 z8 p0.2.1.2.1.2,S2 bL v9 z10 p0.2.1.2.2.2,S2 aW v11 z12 p0.2.2,S2 bL v13 z14 p1] (fun x:Unit=>vI (r)) (fun x l=>l) (fun _ l=>l):=by
 refine aU.of Tryz.func88 rfl Tryz.ntmps88 rfl fun c=>?_
 unfold dK at h
 refine sqR<|qkAsg rfl<|dtN<|aH<|midU (fun a1=>lC  a1=some r) (fun a1 b2=>[]) (fun a1 b2=>[]) ?_ ?_
 ·refine sqR<|qkMove rfl<|aB (bO rfl) rfl<|qkFld rfl<|qkFld rfl<|aB (cT rfl (aC.fact 0 rfl) rfl rfl rfl) rfl<|qkLen (aC.fact 2 rfl) rfl<|qkMove rfl<|dtN<|aN<|loopL (iF U p0 p1 p2) (fun a5 b6=>[(0,vP bx0),(1,v13),(2,vI (p2)),(13,vI (List.length p0.1.2.2:Int)),(14,vI (a5))]) (fun a5 b6=>[]) (0:Int) () h SF (aT.refl _) ?_
  intro k7 a5 b6 h
  refine sqR<|qkLss rfl<|dtN<|aH ?_
  refine eD h rfl (fun h=>?_) fun h=>?_
  ·refine cG<|aH<|aN<|sqR<|qkMove rfl<|qkAsg rfl<|dtN<|sqR<|qkMove rfl<|aB (bO rfl) rfl<|qkFld rfl<|aB (cT rfl (aC.fact 0 rfl) rfl rfl rfl) rfl<|qkMove rfl<|qkMove rfl<|qkMove rfl<|bnE h fun r9 w10 h=>aE (aI.callQ TX (Ai U bx3 v4 v5 v6 v7 z8 v9 z10 v13 z14 r9 w10) rfl (nE [3,4,5,6,7,8,10] rfl)) rfl fun x11=>dtN ?_
   refine Ah h rfl (fun _ h=>?_) fun _ h=>?_
   ·refine sqR<|qkMove rfl<|qkAsg rfl<|dtN<|aQ<|bH<|aG<|aG<|bH<|aG ?_
    cases h
    exact lF rfl
   refine cS<|inT<|aM<|qkAdd rfl<|qkMove rfl<|dtN ?_
   exact yB (wI .i64 (a5+(1:Int))) () h SF rfl
  refine vT ?_
  exact jA () (()) h SF rfl
 intro a1 b2 h
 unfold lC at h
 refine sqR<|qkAsg rfl<|dtN<|aQ ?_
 cases h
 exact lF rfl
end
section
def rK (p0:Int) (p1:eY) (p2:Int) (a3:Bool):Option (Int):=
 if a3=true then(some (p2))else(if p0=(3:Int)then(some (-1:Int))else(if p2<p1.1 then(some (p1.1))else(some (p1.2))))
def sZ (U:Nat) (p0:Int) (p1:eY) (p2:Int):Option (Int):=
 if p1.1<=p2 then(rK p0 p1 p2 (decide (p2<=p1.2)))else(rK p0 p1 p2 (false))
theorem Ui:aP Tryz.prog 160:=Tryz.call160
theorem Gw (U:Nat) {p0:Int} {p1:eY} {p2:Int} (r:Int) (h:sZ U p0 p1 p2=some r):
  aU Tryz.prog 160 #[vI (p0),Value.agg #[vI (p1.1),vI (p1.2)],vI (p2)] [] (fun x:Unit=>vI (r)) (fun x l=>l) (fun _ l=>l):=by
 refine aU.of Tryz.func160 rfl Tryz.ntmps160 rfl fun c=>?_
 refine sqR<|aE (aI.box (cs:=[vI (p1.1),vI (p1.2)]) rfl rfl) rfl fun b1=>qkAsg rfl<|dtN<|aH<|aN<|aH<|midU (fun a3=>rK p0 p1 p2 a3=some r) (fun a3 b4=>[(0,vI (p0)),(2,vI (p2)),(4,vP b1),(7,vB (a3))]) (fun a3 b4=>[bM b1 [vI (p1.1),vI (p1.2)] 145]) ?_ ?_
 ·refine aM<|qkMove rfl ?_
  refine aB (lZ (i:=0) rfl rfl rfl rfl rfl (by decide)) rfl ?_
  refine qkLd 0 rfl<|aB (Fx rfl rfl) rfl<|qkMove rfl ?_
  refine B_ h rfl (fun _ h=>?_) fun _ h=>?_
  ·refine gyMove rfl ?_
   refine aO rfl (lZ (i:=1) rfl rfl rfl rfl rfl (by decide)) rfl ?_
   refine aO rfl (dD 0 rfl rfl rfl rfl rfl) rfl<|aO rfl (yA rfl rfl) rfl<|qkPkT rfl<|qkAsg rfl<|dtN ?_
   exact jA (decide (p2<=p1.2)) () h SF rfl
  refine gdSkip rfl<|gdSkip rfl<|gdSkip rfl<|gdSkip rfl<|qkPkF rfl<|qkAsg rfl<|dtN ?_
  exact jA (false) () h SF rfl
 intro a3 b4 h
 refine Ah h rfl (fun _ h=>?_) fun _ h=>?_
 ·refine sqR<|qkMove rfl<|qkAsg rfl<|dtN<|aQ<|bH<|aG ?_
  cases h
  exact uV rfl
 refine sqR<|qkMove rfl<|qkEql rfl<|qkAsg rfl<|dtN ?_
 refine eD h rfl (fun h=>?_) fun h=>?_
 ·refine sqR<|qkAsg rfl<|dtN<|aQ<|bH<|aG ?_
  cases h
  exact uV rfl
 refine sqR<|qkMove rfl ?_
 refine aB (lZ (i:=0) rfl rfl rfl rfl rfl (by decide)) rfl ?_
 refine qkLd 0 rfl<|qkLss rfl<|qkAsg rfl<|dtN ?_
 refine eD h rfl (fun h=>?_) fun h=>?_
 ·refine sqR ?_
  refine aB (lZ (i:=0) rfl rfl rfl rfl rfl (by decide)) rfl ?_
  refine qkLd 0 rfl<|qkAsg rfl<|dtN<|aQ<|bH<|aG ?_
  cases h
  exact uV rfl
 refine cS<|inT<|sqR ?_
 refine aB (lZ (i:=1) rfl rfl rfl rfl rfl (by decide)) rfl ?_
 refine qkLd 0 rfl<|qkAsg rfl<|dtN<|aQ ?_
 cases h
 exact uV rfl
end
section
def lB  (a5:aL):Option aL:=
 some (a5)
def iD (U:Nat) (p0:D_) (p1:a_) (p2:Int) (p3:Int) (a11:mD) (ag10:sJ->Option aL):Option aL:=
 if a11.1<(List.length ((at' p0.1.2.2 p3).2.2.2):Int)then(ck (0<=a11.1∧a11.1<(List.length ((at' p0.1.2.2 p3).2.2.2):Int)) (Option.bind (eI U ((((p0.2.1.1.1,p0.2.1.1.2.1,p0.2.1.1.2.2)),((p0.2.1.2.1.1,p0.2.1.2.1.2)),p0.2.1.2.2.1,p0.2.1.2.2.2)) p1 p2 ((at' ((at' p0.1.2.2 p3).2.2.2) a11.1).2.2)) fun r18=>(ck (0<=((at' ((at' p0.1.2.2 p3).2.2.2) a11.1).1)∧((at' ((at' p0.1.2.2 p3).2.2.2) a11.1).1)<(List.length p0.1.2.1:Int)) (ck (0<=p2∧p2<(List.length p0.2.2:Int)) (ck (0<=((at' ((at' p0.1.2.2 p3).2.2.2) a11.1).1)∧((at' ((at' p0.1.2.2 p3).2.2.2) a11.1).1)<(List.length (at' p0.2.2 p2):Int)) (Option.bind (sZ U ((at' p0.1.2.1 ((at' ((at' p0.1.2.2 p3).2.2.2) a11.1).1)).2.1) ((((at' (at' p0.2.2 p2) ((at' ((at' p0.1.2.2 p3).2.2.2) a11.1).1)).1),((at' (at' p0.2.2 p2) ((at' ((at' p0.1.2.2 p3).2.2.2) a11.1).1)).2))) r18) fun r24=>(ck (0<=((at' ((at' p0.1.2.2 p3).2.2.2) a11.1).1)∧((at' ((at' p0.1.2.2 p3).2.2.2) a11.1).1)<(List.length a11.2:Int)) (ag10 ((wI .i64 (a11.1+(1:Int))),(List.set a11.2 (Int.toNat ((at' ((at' p0.1.2.2 p3).2.2.2) a11.1).1)) r24))))))))))else(lB  (a11.2))
def jH (U:Nat) (p0:D_) (p1:a_) (p2:Int) (p3:Int):Option aL:=
 ck (0<=p2∧p2<(List.length p1:Int)) (ck ((List.length ([]:aL):Int)+(List.length (at' p1 p2):Int)<=1099511627) (ck (0<=p3∧p3<(List.length p0.1.2.2:Int)) (bD (iD U p0 p1 p2 p3) U ((0:Int),(([]:aL)++(at' p1 p2))))))
theorem Ua:aP Tryz.prog 134:=Tryz.call134
theorem AJ (U:Nat) {p0:D_} {p1:a_} {p2:Int} {p3:Int} (bx0:Nat)  (v1:Value)  (v2:Value)  (bx3:Nat)  (v4:Value)  (v5:Value)  (v6:Value)  (v7:Value)  (z8:nK)  (v9:Value)  (z10:qU)  (v11:Value)  (z12:nK)  (v13:Value)  (z14:qU) (r:aL) (h:jH U p0 p1 p2 p3=some r):
  aU Tryz.prog 134 #[vP bx0,v13,vI (p2),vI (p3)] [bM bx0 [vS (p0.1.1),v1,v2,vP bx3,v11] 140,Sl aJ v1 p0.1.2.1,Sl aF v2 p0.1.2.2,bM bx3 [vS (p0.2.1.1.1),v4,v5,v6,v7,vI (p0.2.1.2.2.1),v9] 178,Sl aJ v4 p0.2.1.1.2.1,Sl aF v5 p0.2.1.1.2.2,Sl bL v6 p0.2.1.2.1.1,S2 aW v7 z8 p0.2.1.2.1.2,S2 bL v9 z10 p0.2.1.2.2.2,S2 aW v11 z12 p0.2.2,S2 bL v13 z14 p1] (fun x:Value=>x) (fun x l=>Ar bU x r::l) (fun _ l=>l):=by
 refine aU.of Tryz.func134 rfl Tryz.ntmps134 rfl fun c=>?_
 refine sqR<|qkAsg rfl<|dtN<|sqR<|qkMove rfl<|qkMove rfl<|ckE h fun j1 h=>aB (cI rfl rfl (aC.fact 10 rfl) rfl rfl j1) rfl<|aB (cJ rfl (aC.fact 10 rfl) rfl rfl j1) rfl<|jM (iI bU)<|ckE h fun j3 h=>aE (fP 0 cH rfl rfl rfl (aC.el (aC.fact 10 rfl) j1.1 j1.2) rfl rfl rfl rfl j3 rfl) rfl fun u2=>qkAsg rfl<|dtN<|aH<|midU (fun a5=>lB  a5=some r) (fun a5 b6=>[(9,u2)]) (fun a5 b6=>[Ar bU u2 a5]) ?_ ?_
 ·refine sqR<|qkMove rfl<|aB (bO rfl) rfl<|qkFld rfl<|qkFld rfl<|aB (cT rfl (aC.fact 0 rfl) rfl rfl rfl) rfl<|qkMove rfl<|ckE h fun j7 h=>aB (aY rfl rfl (aC.fact 2 rfl) rfl rfl j7) rfl<|aB (mR rfl rfl rfl rfl rfl) rfl<|aB (oU rfl (aC.fact 2 rfl) rfl rfl rfl vM j7) rfl<|aB (fI rfl (sE (aC.fact 2 rfl) eK j7.1 j7.2) rfl) rfl<|qkMove rfl<|dtN<|aN<|loopL (iD U p0 p1 p2 p3) (fun a11 b12=>[(0,vP bx0),(1,v13),(2,vI (p2)),(9,u2),(26,(at' p0.1.2.2 p3).2.2.1),(27,vI (List.length ((at' p0.1.2.2 p3).2.2.2):Int)),(28,vI (a11.1))]) (fun a11 b12=>[Ar bU u2 a11.2]) ((0:Int),(([]:aL)++(at' p1 p2))) () h SF (aT.refl _) ?_
  intro k13 a11 b12 h
  refine sqR<|qkLss rfl<|dtN<|aH ?_
  refine eD h rfl (fun h=>?_) fun h=>?_
  ·refine cG<|aH<|aN<|sqR<|ckE h fun j15 h=>aB (aY rfl rfl (sE (aC.fact 2 rfl) eK j7.1 j7.2) rfl rfl j15) rfl<|aB (LQ (cs:=[vI ((at' ((at' p0.1.2.2 p3).2.2.2) a11.1).1),(at' ((at' p0.1.2.2 p3).2.2.2) a11.1).2.1]) rfl (sE (aC.fact 2 rfl) eK j7.1 j7.2) GU rfl rfl rfl rfl j15) rfl<|aE (aI.alloc (cs:=[vI (0:Int),lX]) rfl rfl) rfl fun b16=>bV (Know.one ((sE (sE (aC.fact 2 rfl) eK j7.1 j7.2) zX j15.1 j15.2))) fun ho17=>bF 0 (vs:=[vI ((at' ((at' p0.1.2.2 p3).2.2.2) a11.1).1),(at' ((at' p0.1.2.2 p3).2.2.2) a11.1).2.1]) rfl rfl (cM rfl (cM ho17 rfl)) rfl rfl rfl<|dtN<|aH ?_
   refine JR.start [0,1,3,7,0,0,0,64,255,511] 8 mixedOrders (by decide +kernel) ?_
   refine JR.open (by exact rfl) ?_
   refine jkMove rfl<|jqN rfl (bO rfl)<|jkFld rfl<|bG rfl .nil (mC 0 rfl) (cT rfl (aC.fact 0 rfl) rfl rfl rfl) aK.z<|jkMove rfl<|jkMove rfl<|jkFld rfl<|jkLd 0 rfl<|bN 8 rfl rfl<|bnE h fun r18 w19 h=>aE (aI.callQ Ni (tK U bx3 v4 v5 v6 v7 z8 v9 z10 v13 z14 ((at' ((at' p0.1.2.2 p3).2.2.2) a11.1).2.1) r18 w19) rfl (aD.cons (aC.fact 3 rfl) (aD.cons (aC.fact 4 rfl) (aD.cons (aC.fact 5 rfl) (aD.cons (aC.fact 6 rfl) (aD.cons (aC.fact 7 rfl) (aD.cons (aC.fact 8 rfl) (aD.cons (aC.fact 10 rfl) (aD.cons (sE (sE (aC.fact 2 rfl) eK j7.1 j7.2) zX j15.1 j15.2) .nil))))))))) rfl fun x20=>qkAsg rfl<|dtN ?_
   refine JR.start [0,0,2,0,8,24,56,120,0,256,1016,2040,4088,0,8192,24576,57344,0,253952,516096,0,1048576,4186112,8380416,0,33554424,67108863,134217727] 26 mixedOrders (by decide +kernel) ?_
   refine JR.open (by exact rfl) ?_
   refine jkMove rfl<|jkFld rfl<|jkLd 0 rfl<|jkMove rfl<|jqN rfl (bO rfl)<|jkFld rfl<|jkFld rfl<|bG rfl .nil (mC 0 rfl) (cT rfl (aC.fact 0 rfl) rfl rfl rfl) aK.z<|jkFld rfl<|jkLd 0 rfl<|ckE h fun j21 h=>bG rfl .nil (mC 1 rfl) (aY rfl rfl (aC.fact 0 rfl) rfl rfl j21) aK.z<|jqN rfl (mR rfl rfl rfl rfl rfl)<|bG rfl .nil (mC 1 rfl) (oU rfl (aC.fact 0 rfl) rfl rfl rfl tJ j21) aK.z<|jkMove rfl<|jqN rfl (bO rfl)<|jkFld rfl<|bG rfl .nil (mC 0 rfl) (cT rfl (aC.fact 0 rfl) rfl rfl rfl) aK.z<|jkMove rfl<|ckE h fun j22 h=>bG rfl .nil (mC 9 rfl) (cI rfl rfl (aC.fact 0 rfl) rfl rfl j22) aK.z<|bG rfl .nil (mC 9 rfl) (cJ rfl (aC.fact 0 rfl) rfl rfl j22) aK.z<|jkFld rfl<|jkLd 0 rfl<|ckE h fun j23 h=>bG rfl .nil (mC 9 rfl) (aY rfl rfl (aC.el (aC.fact 0 rfl) j22.1 j22.2) rfl rfl j23) aK.z<|bG rfl .nil (mC 9 rfl) (fR (cs:=[vI ((at' (at' p0.2.2 p2) ((at' ((at' p0.1.2.2 p3).2.2.2) a11.1).1)).1),vI ((at' (at' p0.2.2 p2) ((at' ((at' p0.1.2.2 p3).2.2.2) a11.1).1)).2)]) rfl (aC.el (aC.fact 0 rfl) j22.1 j22.2) bK rfl rfl rfl rfl j23) aK.z<|jkMove rfl<|bnE h fun r24 w25 h=>JR.loud rfl rfl rfl (aI.callQ Ui (Gw U  r24 w25) rfl .nil) rfl (fun x26=>(n_ [([0],[])] rfl)) fun x26=>bN 26 rfl rfl<|ckE h fun j27 h=>aB (aY rfl rfl (aR (aC.res 1 rfl) cH) rfl rfl j27) rfl<|uL 1 r24 j27 rfl rfl rfl rfl rfl rfl rfl<|dY<|inT<|aM<|qkAdd rfl<|qkMove rfl<|dtN ?_
   exact mO ((wI .i64 (a11.1+(1:Int))),(List.set a11.2 (Int.toNat ((at' ((at' p0.1.2.2 p3).2.2.2) a11.1).1)) r24)) () h SF (aT.ix [1] rfl rfl) (aD.refl _ _)
  refine vT ?_
  exact jA (a11.2) () h SF rfl
 intro a5 b6 h
 unfold lB at h
 refine sqR<|qkMove rfl<|qkAsg rfl<|dtN<|aQ ?_
 cases h
 exact fO (u2) rfl rfl (RV.tmp rfl) (aT.refl _) aD.nil
end
section
def lD  (a6:a_):Option a_:=
 some (a6)
def iG (a12:Int×a_) (ag11:(Int×a_)->Option a_) (a18:a_):Option a_:=
 ag11 ((wI .i64 (a12.1+(1:Int))),a18)
def fM (U:Nat) (p0:D_) (p1:a_) (p2:Int) (a12:Int×a_) (ag11:(Int×a_)->Option a_):Option a_:=
 if a12.1<(List.length p1:Int)then(ck (0<=a12.1) (if(cQ .u32 (nP .u32 p2 a12.1) (1:Int))=(1:Int)then(Option.bind (dK U ((((p0.1.1,p0.1.2.1,p0.1.2.2)),((((p0.2.1.1.1,p0.2.1.1.2.1,p0.2.1.1.2.2)),((p0.2.1.2.1.1,p0.2.1.2.1.2)),p0.2.1.2.2.1,p0.2.1.2.2.2)),p0.2.2)) p1 a12.1) fun r22=>(Option.bind (jH U ((((p0.1.1,p0.1.2.1,p0.1.2.2)),((((p0.2.1.1.1,p0.2.1.1.2.1,p0.2.1.1.2.2)),((p0.2.1.2.1.1,p0.2.1.2.1.2)),p0.2.1.2.2.1,p0.2.1.2.2.2)),p0.2.2)) p1 a12.1 r22) fun r25=>(ck (0<=a12.1∧a12.1<(List.length a12.2:Int)) (iG a12 ag11 (List.set a12.2 (Int.toNat a12.1) r25)))))else(iG a12 ag11 (a12.2))))else(lD  (a12.2))
def gC (U:Nat) (p0:D_) (p1:a_) (p2:Int):Option a_:=
 Option.bind (rA U p1) fun r1=>(bD (fM U p0 p1 p2) U ((0:Int),r1))
theorem TU:aP Tryz.prog 113:=Tryz.call113
theorem AK (U:Nat) {p0:D_} {p1:a_} {p2:Int} (bx0:Nat)  (v1:Value)  (v2:Value)  (bx3:Nat)  (v4:Value)  (v5:Value)  (v6:Value)  (v7:Value)  (z8:nK)  (v9:Value)  (z10:qU)  (v11:Value)  (z12:nK)  (v13:Value)  (z14:qU) (r:a_) (h:gC U p0 p1 p2=some r):
  aU Tryz.prog 113 #[vP bx0,v13,vU (p2)] [bM bx0 [vS (p0.1.1),v1,v2,vP bx3,v11] 140,Sl aJ v1 p0.1.2.1,Sl aF v2 p0.1.2.2,bM bx3 [vS (p0.2.1.1.1),v4,v5,v6,v7,vI (p0.2.1.2.2.1),v9] 178,Sl aJ v4 p0.2.1.1.2.1,Sl aF v5 p0.2.1.1.2.2,Sl bL v6 p0.2.1.2.1.1,S2 aW v7 z8 p0.2.1.2.1.2,S2 bL v9 z10 p0.2.1.2.2.2,S2 aW v11 z12 p0.2.2,S2 bL v13 z14 p1] (fun x:Value×List Value=>x.1) (fun x l=>Ar c_.raw x.1 x.2::jK bU x.2 r::l) (fun _ l=>l):=by
 refine aU.of Tryz.func113 rfl Tryz.ntmps113 rfl fun c=>?_
 refine sqR<|qkAsg rfl<|dtN<|sqR<|qkMove rfl<|bnE h fun r1 w2 h=>aE (aI.callQ Nb (BJ U v13 z14 r1 w2) rfl (nE [10] rfl)) rfl fun x3=>qkAsg rfl<|dtN<|aH<|midL (B:=gH) (fun a6=>lD  a6=some r) (fun a6 b7=>[(7,x3.1)]) (fun a6 b7=>[Ar c_.raw x3.1 b7,jK bU b7 a6]) ?_ ?_
 ·refine sqR<|qkMove rfl<|aB (hZ rfl (aC.fact 10 rfl) rfl) rfl<|qkMove rfl<|dtN<|aN<|loopL (B:=gH) (fM U p0 p1 p2) (fun a12 b13=>[(0,vP bx0),(1,v13),(2,vU (p2)),(7,x3.1),(12,vI (List.length p1:Int)),(13,vI (a12.1))]) (fun a12 b13=>[Ar c_.raw x3.1 b13,jK bU b13 a12.2]) ((0:Int),r1) (x3.2) h SF (aT.refl _) ?_
  intro k14 a12 b13 h
  refine sqR<|qkLss rfl<|dtN<|aH ?_
  refine eD h rfl (fun h=>?_) fun h=>?_
  ·refine cG<|aH<|midL (B:=gH) (fun a18=>iG a12 (bD (fM U p0 p1 p2) k14) a18=some r) (fun a18 b19=>[(0,vP bx0),(1,v13),(2,vU (p2)),(7,x3.1),(12,vI (List.length p1:Int)),(13,vI (a12.1))]) (fun a18 b19=>[Ar c_.raw x3.1 b19,jK bU b19 a18]) ?_ ?_
   ·refine aN<|sqR<|qkMove rfl<|qkAsg rfl<|dtN<|sqR<|qkMove rfl<|qkMove rfl<|ckE h fun j20 h=>aB (Cz rfl rfl j20) rfl<|qkAnd rfl<|qkEql rfl<|dtN ?_
    refine eD h rfl (fun h=>?_) fun h=>?_
    ·refine aM<|qkMove rfl<|qkMove rfl<|qkMove rfl<|qkMove rfl<|qkMove rfl<|qkMove rfl<|qkMove rfl<|qkMove rfl<|bnE h fun r22 w23 h=>aE (aI.callQ QI (uT U bx0 v1 v2 bx3 v4 v5 v6 v7 z8 v9 z10 v11 z12 v13 z14 r22 w23) rfl (nE [0,1,2,3,4,5,6,7,8,9,10] rfl)) rfl fun x24=>bnE h fun r25 w26 h=>aE (aI.callQ Ua (AJ U bx0 v1 v2 bx3 v4 v5 v6 v7 z8 v9 z10 v11 z12 v13 z14 r25 w26) rfl (nE [0,1,2,3,4,5,6,7,8,9,10] rfl)) rfl fun x27=>ckE h fun j28 h=>aB (cI rfl rfl (bA (i:=1) (j:=2) rfl rfl cH) rfl rfl j28) rfl<|bV (Know.one ((aR (aC.res 0 rfl) cH))) fun ho29=>jM (tP (k:=a12.1) 2 0 rfl rfl rfl j28) ?_
     refine nN 0 1 ⟨j28.1,by first|exact j28.2|simpa using j28.2⟩ rfl rfl rfl rfl rfl (by simp) ho29 rfl ?_
     refine dY<|inT ?_
     exact jA (List.set a12.2 (Int.toNat a12.1) r25) (List.set b13 (Int.toNat a12.1) x27) h SF rfl
    refine cS<|inT ?_
    exact jA (a12.2) (b13) h SF rfl
   intro a18 b19 h
   unfold iG at h
   refine aM<|qkAdd rfl<|qkMove rfl<|dtN ?_
   exact yB ((wI .i64 (a12.1+(1:Int))),a18) (b19) h SF rfl
  refine vT ?_
  exact jA (a12.2) (b13) h SF rfl
 intro a6 b7 h
 unfold lD at h
 refine sqR<|qkMove rfl<|qkAsg rfl<|dtN<|aQ ?_
 cases h
 exact fO (x3.1,b7) rfl rfl (RV.tmp rfl) (aT.refl _) aD.nil
end
section
def uG  (a2:Int):Option (Int):=
 some (a2)
def rE (a7:eY) (ag6:gM->Option (Int)) (a12:Int):Option (Int):=
 ag6 (a12,(wI .i64 (a7.2+(1:Int))))
def oP (p0:Int) (g1:Int->Option Bool) (a7:eY) (ag6:gM->Option (Int)):Option (Int):=
 if a7.2<p0 then(Option.bind (g1 a7.2) fun r14=>(if r14=true then(ck (0<=a7.2) (rE a7 ag6 (Iv .u32 a7.1 (yY .u32 (1:Int) a7.2))))else(rE a7 ag6 (a7.1))))else(uG  (a7.1))
def vY (U:Nat) (p0:Int) (g1:Int->Option Bool):Option (Int):=
 bD (oP p0 g1) U ((0:Int),(0:Int))
theorem WM:aP Tryz.prog 86:=Tryz.call86
theorem Jl (U:Nat) {p0:Int} {g1:Int->Option Bool} (f1:FuncId) (cs1:gH) (Lf:List aS) (hb_g1:aP Tryz.prog f1) (hm_g1:∀(y0:Int) (r:Bool),g1 y0=some r->aU Tryz.prog f1 ([vI (y0)]++cs1).toArray Lf (fun _:Unit=>vB (r)) (fun _ l=>l) (fun _ l=>l)) (r:Int) (h:vY U p0 g1=some r):
  aU Tryz.prog 86 #[vI (p0),Value.func (.func f1) #[] (cs1).toArray] ([]++Lf) (fun x:Unit=>vU (r)) (fun x l=>l) (fun _ l=>l):=by
 refine aU.of Tryz.func86 rfl Tryz.ntmps86 rfl fun c=>?_
 unfold vY at h
 refine sqR<|qkAsg rfl<|dtN<|sqR<|qkAsg rfl<|dtN<|aH<|BO (B:=Unit) (fun a2=>uG  a2=some r) (fun a2 b3=>[(5,vU (a2))]) (fun a2 b3=>[]) (fun a2 b3=>([]++Lf)) ?_ ?_
 ·refine sqR<|qkMove rfl<|qkMove rfl<|dtN<|aN<|EH (B:=Unit) (oP p0 g1) (fun a7 b8=>[(1,Value.func (.func f1) #[] (cs1).toArray),(5,vU (a7.1)),(7,vI (p0)),(8,vI (a7.2))]) (fun a7 b8=>[]) (fun a7 b8=>([]++Lf)) ((0:Int),(0:Int)) () h SF (aT.refl _) (aD.refl _ _) ?_
  intro k9 a7 b8 h
  refine sqR<|qkLss rfl<|dtN<|aH ?_
  refine eD h rfl (fun h=>?_) fun h=>?_
  ·refine cG<|aH<|BO (B:=Unit) (fun a12=>rE a7 (bD (oP p0 g1) k9) a12=some r) (fun a12 b13=>[(1,Value.func (.func f1) #[] (cs1).toArray),(5,vU (a12)),(7,vI (p0)),(8,vI (a7.2))]) (fun a12 b13=>[]) (fun a12 b13=>([]++Lf)) ?_ ?_
   ·refine aN<|sqR<|qkMove rfl<|qkAsg rfl<|dtN<|sqR<|qkMove rfl<|qkMove rfl<|bnE h fun r14 w15 h=>aE (pH (vs:=[vI (a7.2)]) (cs:=cs1) hb_g1 rfl (hm_g1 a7.2 r14 w15) rfl (aD.tail _) (fun _ _=>rfl)) rfl fun x16=>dtN ?_
    refine Ah h rfl (fun _ h=>?_) fun _ h=>?_
    ·refine aM<|qkMove rfl<|qkMove rfl<|ckE h fun j18 h=>aB (J_ rfl rfl j18) rfl<|aB (TC rfl rfl) rfl<|qkAsg rfl<|dY<|inT ?_
     exact jA (Iv .u32 a7.1 (yY .u32 (1:Int) a7.2)) () h SF rfl
    refine cS<|inT ?_
    exact jA (a7.1) () h SF rfl
   intro a12 b13 h
   unfold rE at h
   refine aM<|qkAdd rfl<|qkMove rfl<|dtN ?_
   exact yB (a12,(wI .i64 (a7.2+(1:Int)))) () h SF rfl
  refine vT ?_
  exact jA (a7.1) () h SF rfl
 intro a2 b3 h
 unfold uG at h
 refine sqR<|qkMove rfl<|qkAsg rfl<|dtN<|aQ ?_
 cases h
 exact lF rfl
end
section
def iA (U:Nat) (p0:Int) (p1:D_) (p2:a_):Option (Bool):=
 Option.bind (dK U ((((p1.1.1,p1.1.2.1,p1.1.2.2)),((((p1.2.1.1.1,p1.2.1.1.2.1,p1.2.1.1.2.2)),((p1.2.1.2.1.1,p1.2.1.2.1.2)),p1.2.1.2.2.1,p1.2.1.2.2.2)),p1.2.2)) p2 p0) fun r1=>(some (decide ((0:Int)<=r1)))
theorem WN:aP Tryz.prog 87:=Tryz.call87
theorem wW (U:Nat) {p0:Int} {p1:D_} {p2:a_} (bx0:Nat)  (bx1:Nat)  (v2:Value)  (v3:Value)  (bx4:Nat)  (v5:Value)  (v6:Value)  (v7:Value)  (v8:Value)  (z9:nK)  (v10:Value)  (z11:qU)  (v12:Value)  (z13:nK)  (bx14:Nat)  (v15:Value)  (z16:qU) (r:Bool) (h:iA U p0 p1 p2=some r):
  aU Tryz.prog 87 #[vI (p0),vP bx0,vP bx14] [bM bx0 [vP bx1] 93,bM bx1 [vS (p1.1.1),v2,v3,vP bx4,v12] 140,Sl aJ v2 p1.1.2.1,Sl aF v3 p1.1.2.2,bM bx4 [vS (p1.2.1.1.1),v5,v6,v7,v8,vI (p1.2.1.2.2.1),v10] 178,Sl aJ v5 p1.2.1.1.2.1,Sl aF v6 p1.2.1.1.2.2,Sl bL v7 p1.2.1.2.1.1,S2 aW v8 z9 p1.2.1.2.1.2,S2 bL v10 z11 p1.2.1.2.2.2,S2 aW v12 z13 p1.2.2,bM bx14 [v15] 36,S2 bL v15 z16 p2] (fun x:Unit=>vB (r)) (fun x l=>l) (fun _ l=>l):=by
 refine aU.of Tryz.func87 rfl Tryz.ntmps87 rfl fun c=>?_
 refine sqR<|qkAsg rfl<|dtN<|sqR<|aB (cT rfl (aC.fact 0 rfl) rfl rfl rfl) rfl<|aB (cT rfl (aC.fact 11 rfl) rfl rfl rfl) rfl<|qkMove rfl<|bnE h fun r1 w2 h=>aE (aI.callQ QI (uT U bx1 v2 v3 bx4 v5 v6 v7 v8 z9 v10 z11 v12 z13 v15 z16 r1 w2) rfl (nE [1,2,3,4,5,6,7,8,9,10,12] rfl)) rfl fun x3=>aB (Fx rfl rfl) rfl<|qkAsg rfl<|dtN<|aQ ?_
 cases h
 exact lF rfl
end
section
def cZ (U:Nat) (p0:D_) (p1:a_):Option (Int):=
 Option.bind (vY U (List.length p0.2.2:Int) (fun y0=>iA U y0 ((((p0.1.1,p0.1.2.1,p0.1.2.2)),((((p0.2.1.1.1,p0.2.1.1.2.1,p0.2.1.1.2.2)),((p0.2.1.2.1.1,p0.2.1.2.1.2)),p0.2.1.2.2.1,p0.2.1.2.2.2)),p0.2.2)) p1)) fun r4=>(some (r4))
theorem QF:aP Tryz.prog 57:=Tryz.call57
theorem sI (U:Nat) {p0:D_} {p1:a_} (bx0:Nat)  (v1:Value)  (v2:Value)  (bx3:Nat)  (v4:Value)  (v5:Value)  (v6:Value)  (v7:Value)  (z8:nK)  (v9:Value)  (z10:qU)  (v11:Value)  (z12:nK)  (v13:Value)  (z14:qU) (r:Int) (h:cZ U p0 p1=some r):
  aU Tryz.prog 57 #[vP bx0,v13] [bM bx0 [vS (p0.1.1),v1,v2,vP bx3,v11] 140,Sl aJ v1 p0.1.2.1,Sl aF v2 p0.1.2.2,bM bx3 [vS (p0.2.1.1.1),v4,v5,v6,v7,vI (p0.2.1.2.2.1),v9] 178,Sl aJ v4 p0.2.1.1.2.1,Sl aF v5 p0.2.1.1.2.2,Sl bL v6 p0.2.1.2.1.1,S2 aW v7 z8 p0.2.1.2.1.2,S2 bL v9 z10 p0.2.1.2.2.2,S2 aW v11 z12 p0.2.2,S2 bL v13 z14 p1] (fun x:Unit=>vU (r)) (fun x l=>l) (fun _ l=>l):=by
 refine aU.of Tryz.func57 rfl Tryz.ntmps57 rfl fun c=>?_
 refine sqR<|aE (aI.box (cs:=[vP bx0]) rfl rfl) rfl fun b1=>bV (Know.one (aC.sl (aC.fact 10 rfl))) fun ho3=>?_
 refine aE (aI.box (cs:=[v13]) rfl (by rw[iS ho3])) rfl fun b2=>?_
 refine qkAsg rfl<|dtN<|sqR<|qkLd 1 rfl<|aB (bO rfl) rfl<|qkFld rfl<|aB (cT rfl (aC.fact 0 rfl) rfl rfl rfl) rfl<|aB (hZ rfl (aC.fact 9 rfl) rfl) rfl<|aB (tQ (cs:=[.tmp 2,.tmp 3]) (vs:=[vP b1,vP b2]) rfl) rfl<|bnE h fun r4 w5 h=>aE (aI.callQ WM (Jl U 87 [vP b1,vP b2] [bM b1 [vP bx0] 93,bM bx0 [vS (p0.1.1),v1,v2,vP bx3,v11] 140,Sl aJ v1 p0.1.2.1,Sl aF v2 p0.1.2.2,bM bx3 [vS (p0.2.1.1.1),v4,v5,v6,v7,vI (p0.2.1.2.2.1),v9] 178,Sl aJ v4 p0.2.1.1.2.1,Sl aF v5 p0.2.1.1.2.2,Sl bL v6 p0.2.1.2.1.1,S2 aW v7 z8 p0.2.1.2.1.2,S2 bL v9 z10 p0.2.1.2.2.2,S2 aW v11 z12 p0.2.2,bM b2 [v13] 36,S2 bL v13 z14 p1] WN (fun y0 r h=>wW U b1 bx0 v1 v2 bx3 v4 v5 v6 v7 z8 v9 z10 v11 z12 b2 v13 z14 r h) r4 w5) rfl (aD.cons (aC.res 1 rfl) (aD.cons (aC.fact 0 rfl) (aD.cons (aC.fact 1 rfl) (aD.cons (aC.fact 2 rfl) (aD.cons (aC.fact 3 rfl) (aD.cons (aC.fact 4 rfl) (aD.cons (aC.fact 5 rfl) (aD.cons (aC.fact 6 rfl) (aD.cons (aC.fact 7 rfl) (aD.cons (aC.fact 8 rfl) (aD.cons (aC.fact 9 rfl) (aD.cons (aC.res 0 rfl) (nE [10] rfl)))))))))))))) rfl fun x6=>qkAsg rfl<|dtN<|aQ ?_
 cases h
 exact uV rfl
end
end Go.Proofs.YtigggfnchamobaaGreatDoor
end
section
namespace Go.Proofs.YtigggfnchamobaaGreatDoor
open Go Go.Sx
section
abbrev RL:=E×List (Nat×E)
abbrev x_:=Dr×GR×Int×a_
def FN (R:List RL):Lb:=R.map fun r=>(r.1.ts,r.2.map fun s=>((s.1:Int),s.2.ts))
def HB (nv:Nat) (e:E):Bool:=e.wf nv false&&decide (e.depth<=100)&&decide (e.ts.length<=800)
def wK (nv:Nat) (R:List RL):Bool:=decide (R.length<=20)&&R.all fun r=>HB nv r.1&&decide (r.2.length<=20)&&r.2.all fun s=>decide (s.1<nv)&&HB nv s.2
instance:Inhabited E:=⟨.lf 1 0⟩
def pA (S:x_) (c:a_) (v:Nat) (e:E):Int:=e.den (VP (S,c,(v:Int),[])) (row S.2.1 v).length (-1)
def oH (S:x_) (R:List RL) (c:a_) (v:Nat):Int:=tU (R.map fun r=>pA S c v r.1)
def yZ (kind:Int) (b:eY) (x:Int):Int:=if b.1<=x∧x<=b.2 then x else if kind=3 then -1 else if x<b.1 then b.1 else b.2
def Ps (S:x_) (vars:List EK) (c:a_) (v:Nat) (st:aL) (s:Nat×E):aL:=st.set s.1 (yZ (at' vars (s.1:Int)).2.1 (wA S.2.1 vars v s.1) (pA S c v s.2))
def z_ (S:x_) (vars:List EK) (R:List RL) (c:a_) (v:Nat) (i:Int):aL:=(at' R i).2.foldl (Ps S vars c v) (at' c (v:Int))
def XU (S:x_) (R:List RL) (c:a_):Nat:=xG (fun v=>decide (0<=oH S R c v)) S.2.1.2.length
def gZ (S:x_) (vars:List EK) (R:List RL) (c:a_) (t:Nat):a_:=(List.range c.length).map fun v=>if t.testBit v=true then z_ S vars R c v (oH S R c v)else at' c (v:Int)
structure sN (g:GR) (nv:Nat) (c:a_):Prop where
 len:c.length=g.2.length
 row:∀v:Nat,v<g.2.length->(at' c (v:Int)).length=nv
theorem Lt.shape {g:GR} {c:a_} {vars:List EK} (h:Lt g c vars):sN g vars.length c:=⟨h.len,h.row⟩
section
variable {S:x_} {nv:Nat} {c:List (List Int)} {v:Nat}
theorem wok (hV:VG S.2.1) (hc:sN S.2.1 nv c) (hv:v<S.2.1.2.length) (ts:List (Int×Int)):ZJ (S,c,(v:Int),ts) nv S.2.1.2.length v:=by
 refine⟨rfl,hv,rfl,hV.len,hc.len,hc.row,fun u hu i hi=> ?_⟩
 obtain⟨w,h1,h2⟩:=hV.to hu hi
 show 0<=(gO (row S.2.1 u) i).1∧(gO (row S.2.1 u) i).1<_
 rw[h2];omega
theorem Lk (hV:VG S.2.1) (hc:sN S.2.1 nv c) (hv:v<S.2.1.2.length) {e:E} (he:HB nv e=true):eI 1000 S c (v:Int) e.ts=some (pA S c v e):=by
 simp only[HB,Bool.and_eq_true,decide_eq_true_eq]at he
 have h24:=hV.n24
 have hdeg:=(hV.node v hv).deg
 unfold eI
 have:=Tc (wok hV hc hv e.ts) (deg:=(row S.2.1 v).length) rfl (by omega) he.2 e false 1000 0 (-1) [] [] (by simp) rfl he.1.1 (fun h=>by cases h) (by omega)
 rw[bE (show bI 1000 _ (0:Int) (-1)=_ from this)]
 rfl
end
section
variable {p:Dr} {g:GR} {gr:Int} {bk:List (List Int)} {R:List RL} {nv:Nat} {c:List (List Int)} {v:Nat}
theorem CY (hz:p.2.2.map wV=FN R):p.2.2.length=R.length:=by simpa [FN]using congrArg List.length hz
theorem NN (hz:p.2.2.map wV=FN R) {i:Nat} (hi:i<R.length):wV (at' p.2.2 (i:Int))=((at' R (i:Int)).1.ts,(at' R (i:Int)).2.map fun s=>((s.1:Int),s.2.ts)):=by
 have hl:=CY hz
 have:=congrArg (fun q=>q[i]?) hz
 simp only[FN,List.getElem?_map,List.getElem?_eq_getElem hi,List.getElem?_eq_getElem (show i<p.2.2.length by omega),Option.map_some,Option.some.injEq]at this
 rw[kK hi,kK (show i<p.2.2.length by omega)];exact this
theorem NS (hR:wK nv R=true) {i:Nat} (hi:i<R.length):HB nv (at' R (i:Int)).1=true∧(at' R (i:Int)).2.length<=20∧∀s∈(at' R (i:Int)).2,s.1<nv∧HB nv s.2=true:=by
 simp only[wK,Bool.and_eq_true,List.all_eq_true,decide_eq_true_eq]at hR
 have:=hR.2 (at' R (i:Int)) (by rw[kK hi];exact List.getElem_mem hi)
 exact⟨this.1.1,this.1.2,fun s hs=>this.2 s hs⟩
theorem Vl (hR:wK nv R=true):R.length<=20:=by
 simp only[wK,Bool.and_eq_true,decide_eq_true_eq]at hR
 exact hR.1
theorem Rt (hV:VG g) (hc:sN g nv c) (hv:v<g.2.length) (hz:p.2.2.map wV=FN R) (hR:wK nv R=true) {i:Nat} (hi:i<R.length):iH 1000 (p,g,gr,bk) c (v:Int) (i:Int)=some (nz (pA (p,g,gr,bk) c v (at' R (i:Int)).1)):=by
 have hl:=CY hz
 have e:(at' p.2.2 (i:Int)).2.1.2=(at' R (i:Int)).1.ts:=congrArg Prod.fst (NN hz hi)
 unfold iH
 dsimp only
 rw[cL (by omega),e]
 rw[bE (show eI 1000 _ c (v:Int) _=_ from Lk (S:=(p,g,gr,bk)) hV hc hv (NS hR hi).1)]
 rfl
theorem NT (hV:VG g) (hc:sN g nv c) (hv:v<g.2.length) (hz:p.2.2.map wV=FN R) (hR:wK nv R=true) (tab:List (List (Int×Int))):dK 1000 (p,(p,g,gr,bk),tab) c (v:Int)=some (oH (p,g,gr,bk) R c v):=by
 have hl:=CY hz
 have h20:=Vl hR
 let l:=R.map fun r=>pA (p,g,gr,bk) c v r.1
 have hll:l.length=R.length:=by simp[l]
 have hat:∀i,i<R.length->at' l (i:Int)=pA (p,g,gr,bk) c v (at' R (i:Int)).1:=fun i hi=>by
  rw[kK (by omega),kK hi];simp[l]
 have stp:∀(k:Nat) ag,k<R.length->iF 1000 (p,(p,g,gr,bk),tab) c (v:Int) (k:Int) ag=if nz (at' l (k:Int))=true then some (k:Int)else ag (((k+1:Nat):Int)):=by
  intro k ag hk
  unfold iF
  dsimp only
  rw[if_pos (by omega),bE (show iH 1000 _ c (v:Int) (k:Int)=_ from Rt hV hc hv hz hR hk),hat k hk,eB (by omega)]
 unfold dK oH
 by_cases hx:∃i,i<R.length∧at' l (i:Int)≠0
 ·obtain⟨i,hi,h0⟩:=hx
  obtain⟨m,h1,h2,h3⟩:=HK (p:=fun i=>at' l (i:Int)≠0) i h0
  have h3:∀j,j<m->at' l (j:Int)=0:=fun j hj=>Decidable.not_not.1 (h3 j hj)
  rw[show tU _=(m:Int)from xE (l:=l) (by omega) h2 h3]
  exact dX (K:=some (m:Int)) m (fun k=>(k:Int)) (fun k ag hk=>by rw[stp k ag (by omega),if_neg (by simp[nz,h3 k hk])]) (fun ag=>by rw[stp m ag (by omega),if_pos (by simpa [nz]using h2)]) 1000 (by omega)
 ·have hx:∀j,j<l.length->at' l (j:Int)=0:=fun j hj=>Decidable.not_not.1 fun e=>hx ⟨j,by omega,e⟩
  rw[show tU _=(-1:Int)from xD (l:=l) hx]
  exact dX (K:=some (-1)) R.length (fun k=>(k:Int)) (fun k ag hk=>by rw[stp k ag hk,if_neg (by simp[nz,hx k (by omega)])]) (fun ag=>by
   unfold iF lC
   dsimp only
   rw[if_neg (by omega)]) 1000 (by omega)
theorem Gq (S:x_) (R:List RL) (c:List (List Int)) (v:Nat):oH S R c v = -1∨∃i:Nat,oH S R c v=(i:Int)∧i<R.length∧pA S c v (at' R (i:Int)).1≠0:=by
 let l:=R.map fun r=>pA S c v r.1
 by_cases hx:∃i,i<l.length∧at' l (i:Int)≠0
 ·obtain⟨i,hi,h0⟩:=hx
  obtain⟨m,h1,h2,h3⟩:=HK (p:=fun i=>at' l (i:Int)≠0) i h0
  have h3:∀j,j<m->at' l (j:Int)=0:=fun j hj=>Decidable.not_not.1 (h3 j hj)
  have hm:m<R.length:=by simp[l]at hi;omega
  refine .inr ⟨m,xE (l:=l) (by omega) h2 h3,hm,?_⟩
  have:at' l (m:Int)=pA S c v (at' R (m:Int)).1:=by rw[kK (by simpa [l]using hm),kK hm];simp[l]
  rw[<-this];exact h2
 ·exact .inl (xD (l:=l) fun j hj=>Decidable.not_not.1 fun e=>hx ⟨j,hj,e⟩)
theorem Gr {S:x_} {R:List RL} {c:List (List Int)} {v:Nat}:oH S R c v = -1↔∀i:Nat,i<R.length->pA S c v (at' R (i:Int)).1=0:=by
 let l:=R.map fun r=>pA S c v r.1
 have hat:∀i,i<R.length->at' l (i:Int)=pA S c v (at' R (i:Int)).1:=fun i hi=>by rw[kK (by simpa [l]using hi),kK hi];simp[l]
 constructor
 ·intro h i hi
  refine Decidable.not_not.1 fun e=> ?_
  obtain⟨m,h1,h2,h3⟩:=HK (p:=fun i=>at' l (i:Int)≠0) i (by rw[hat i hi];exact e)
  have h3:∀j,j<m->at' l (j:Int)=0:=fun j hj=>Decidable.not_not.1 (h3 j hj)
  have:oH S R c v=(m:Int):=xE (l:=l) (by simp[l];omega) h2 h3
  omega
 ·intro h
  exact xD (l:=l) fun j hj=>by rw[hat j (by simpa [l]using hj)];exact h j (by simpa [l]using hj)
theorem Mb (hV:VG g) (hc:sN g nv c) (hz:p.2.2.map wV=FN R) (hR:wK nv R=true) {tab:List (List (Int×Int))} (ht:tab.length=g.2.length):cZ 1000 (p,(p,g,gr,bk),tab) c=some ((XU (p,g,gr,bk) R c:Nat):Int):=by
 have h24:=hV.n24
 unfold cZ vY
 let q:Nat->Bool:=fun v=>decide (0<=oH (p,g,gr,bk) R c v)
 have:=dX (step:=oP (tab.length:Int) (fun y0=>iA 1000 y0 (p,(p,g,gr,bk),tab) c)) (K:=some ((xG q g.2.length:Nat):Int)) g.2.length (fun k=>(((xG q k:Nat):Int),(k:Int))) (fun k ag hk=>by
  have hm:=NG q (k:=k) (by omega)
  unfold oP rE iA
  dsimp only
  rw[if_pos (by omega),bE (show Option.bind (dK 1000 _ c (k:Int)) _=some (q k) by rw[bE (show dK 1000 _ c (k:Int)=_ from NT hV hc hk hz hR tab)]),eB (by omega)]
  cases hq:q k with
  |true=>
   rw[if_pos rfl,cL (by omega),LV hm (by omega)]
   simp only[xG,hq,if_true]
  |false=>
   rw[if_neg (by decide)]
   simp only[xG,hq];rfl) (fun ag=>by
  unfold oP uG
  dsimp only
  rw[if_neg (by omega)]) 1000 (by omega)
 rw[bE (show bD _ 1000 ((0:Int),(0:Int))=_ from this)]
 rfl
end
end
section
theorem QK (f:Nat) (k:Int) (b:eY) (x:Int):sZ f k b x=some (yZ k b x):=by
 unfold sZ rK yZ
 by_cases h1:b.1<=x
 ·by_cases h2:x<=b.2
  ·simp only[h1,h2,and_self,if_true,decide_true]
  ·simp only[h1,h2,and_false,if_true,if_false,decide_false,Bool.false_eq_true]
   split
   ·rfl
   ·split<;>rfl
 ·simp only[h1,false_and,if_false,Bool.false_eq_true]
  split
  ·rfl
  ·split<;>rfl
theorem KV {S:x_} {vars:List EK} {c:a_} {v:Nat} (l:List (Nat×E)) (st:aL):(l.foldl (Ps S vars c v) st).length=st.length:=by
 induction l generalizing st with
 |nil=>rfl
 |cons s l ih=>rw[List.foldl_cons,ih];simp[Ps]
theorem HO {S:x_} {vars:List EK} {R:List RL} {c:a_} {v:Nat} {i:Int}:(z_ S vars R c v i).length=(at' c (v:Int)).length:=KV _ _
section
variable {p:Dr} {g:GR} {gr:Int} {bk:List (List Int)} {R:List RL} {c:List (List Int)} {v:Nat}
theorem U_ (hV:VG g) (hp:BS g p.2.1) (hc:sN g p.2.1.length c) (hv:v<g.2.length) (hz:p.2.2.map wV=FN R) (hR:wK p.2.1.length R=true) {i:Nat} (hi:i<R.length):
  jH 1000 (p,(p,g,gr,bk),zQ g p.2.1) c (v:Int) (i:Int)=some (z_ (p,g,gr,bk) p.2.1 R c v (i:Int)):=by
 have h24:=hV.n24
 have hcl:=hc.len
 have hrow:=hc.row v hv
 have hvl:=hp.len
 have hl:=CY hz
 have hpa:=NN hz hi
 obtain⟨-,hs20,hsets⟩:=NS hR hi
 have htab:(zQ g p.2.1).length=g.2.length:=by simp[zQ]
 have htv:at' (zQ g p.2.1) (v:Int)=Bq g p.2.1 v:=AE _ hv
 have hrt:(Bq g p.2.1 v).length=p.2.1.length:=by simp[Bq]
 have e2:(at' p.2.2 (i:Int)).2.2.2.map (fun s=>(s.1,s.2.2))=(at' R (i:Int)).2.map fun s=>((s.1:Int),s.2.ts):=congrArg Prod.snd hpa
 have hsl:(at' p.2.2 (i:Int)).2.2.2.length=(at' R (i:Int)).2.length:=by simpa using congrArg List.length e2
 unfold jH
 dsimp only
 rw[cL (by omega),cL (by simp;omega),cL (by omega),List.nil_append]
 unfold z_
 let sets:=(at' R (i:Int)).2
 have:=dX (step:=iD 1000 (p,(p,g,gr,bk),zQ g p.2.1) c (v:Int) (i:Int)) (K:=some (sets.foldl (Ps (p,g,gr,bk) p.2.1 c v) (at' c (v:Int)))) sets.length (fun k=>((k:Int),(sets.take k).foldl (Ps (p,g,gr,bk) p.2.1 c v) (at' c (v:Int)))) (fun k ag hk=>by
  have hk2:k<(at' p.2.2 (i:Int)).2.2.2.length:=by rw[hsl];exact hk
  have ek:((at' (at' p.2.2 (i:Int)).2.2.2 (k:Int)).1,(at' (at' p.2.2 (i:Int)).2.2.2 (k:Int)).2.2)=(((at' sets (k:Int)).1:Int),(at' sets (k:Int)).2.ts):=by
   have:=congrArg (fun q=>q[k]?) e2
   simp only[List.getElem?_map,List.getElem?_eq_getElem hk2,List.getElem?_eq_getElem (show k<(at' R (i:Int)).2.length from hk),Option.map_some,Option.some.injEq]at this
   rw[kK hk2,kK hk];exact this
  have ek1:=congrArg Prod.fst ek
  have ek2:=congrArg Prod.snd ek
  dsimp only at ek1 ek2
  obtain⟨hs1,hs2⟩:=hsets (at' sets (k:Int)) (by rw[kK hk];exact List.getElem_mem hk)
  have hstl:((sets.take k).foldl (Ps (p,g,gr,bk) p.2.1 c v) (at' c (v:Int))).length=p.2.1.length:=by rw[KV,hrow]
  have hcell:at' (Bq g p.2.1 v) ((at' sets (k:Int)).1:Int)=wA g p.2.1 v (at' sets (k:Int)).1:=AE _ hs1
  have hsk:sets.length<=20:=hs20
  unfold iD
  dsimp only
  rw[if_pos (by omega),cL (by omega),ek1,ek2,bE (show eI 1000 _ c (v:Int) _=_ from Lk (S:=(p,g,gr,bk)) hV hc hv hs2),cL (by omega),cL (by omega),htv,cL (by omega),hcell,bE (QK 1000 _ _ _),cL (by omega),eB (by omega),Int.toNat_natCast,DZ hk,List.foldl_append]
  rfl) (fun ag=>by
  unfold iD lB
  dsimp only
  rw[if_neg (by show¬(sets.length:Int)<_;rw[hsl];exact Int.lt_irrefl _),List.take_length]) 1000 (by show(at' R (i:Int)).2.length<1000;omega)
 exact this
theorem Vr (hV:VG g) (hp:BS g p.2.1) (hc:sN g p.2.1.length c) (hz:p.2.2.map wV=FN R) (hR:wK p.2.1.length R=true) {t:Nat} (ht32:t<4294967296) (ht:∀v,t.testBit v=true->0<=oH (p,g,gr,bk) R c v):
  gC 1000 (p,(p,g,gr,bk),zQ g p.2.1) c (t:Int)=some (gZ (p,g,gr,bk) p.2.1 R c t):=by
 have h24:=hV.n24
 have hcl:=hc.len
 have hvl:=hp.len
 unfold gC
 rw[bE (Np c (by omega) (fun v hv=>by rw[hc.row v (by omega)];omega))]
 let f:Nat->List Int:=fun v=>if t.testBit v=true then z_ (p,g,gr,bk) p.2.1 R c v (oH (p,g,gr,bk) R c v)else at' c (v:Int)
 let Q:Nat->List (List Int):=fun k=>(List.range k).map f++c.drop k
 have hQ:∀k,k<=c.length->(Q k).length=c.length:=fun k hk=>by simp[Q];omega
 have hset:∀k,k<c.length->(Q k).set k (f k)=Q (k+1):=fun k hk=>by
  show((List.range k).map f++c.drop k).set k (f k)=(List.range (k+1)).map f++c.drop (k+1)
  rw[List.set_append_right _ _ (by simp),List.length_map,List.length_range,Nat.sub_self,List.drop_eq_getElem_cons hk,List.set_cons_zero,List.range_succ,List.map_append,List.map_singleton,List.append_assoc]
  rfl
 have hkeep:∀k,k<c.length->f k=at' c (k:Int)->Q k=Q (k+1):=fun k hk hf=>by
  show(List.range k).map f++c.drop k=(List.range (k+1)).map f++c.drop (k+1)
  rw[List.range_succ,List.drop_eq_getElem_cons hk,List.map_append,List.map_singleton,hf,kK hk]
  simp
 rw[show c=Q 0 by simp[Q]]
 refine dX (step:=fM 1000 (p,(p,g,gr,bk),zQ g p.2.1) (Q 0) (t:Int)) (K:=some (gZ (p,g,gr,bk) p.2.1 R (Q 0) t)) c.length (fun k=>((k:Int),Q k)) (fun k ag hk=> ?_) (fun ag=> ?_) 1000 (by omega)
 ·rw[show Q 0=c by simp[Q]]
  unfold fM iG
  dsimp only
  rw[if_pos (by omega),cL (by omega),eB (by omega)]
  by_cases hb:t.testBit k=true
  ·obtain⟨i,hi,hil,_⟩:=(Gq (p,g,gr,bk) R c k).resolve_left (fun e=>by have:=ht k hb;omega)
   rw[if_pos ((II (by omega) ht32).2 hb),bE (show dK 1000 _ c (k:Int)=_ from NT hV hc (by omega) hz hR _),hi,bE (show jH 1000 _ c (k:Int) (i:Int)=_ from U_ hV hp hc (by omega) hz hR hil),cL (by rw[hQ k (by omega)];omega),Int.toNat_natCast]
   have:z_ (p,g,gr,bk) p.2.1 R c k (i:Int)=f k:=by simp only[f];rw[if_pos hb,hi]
   rw[this,hset k hk]
  ·rw[if_neg (fun q=>hb ((II (by omega) ht32).1 q)),hkeep k hk (by simp only[f];rw[if_neg hb])]
 ·rw[show Q 0=c by simp[Q]]
  unfold fM lD
  dsimp only
  rw[if_neg (by omega)]
  simp[Q,gZ,f]
theorem HV {S:x_} {vars:List EK} {t:Nat}:(gZ S vars R c t).length=c.length:=by simp[gZ]
theorem KW {S:x_} {vars:List EK} {t:Nat} (hv:v<c.length):at' (gZ S vars R c t) (v:Int)=if t.testBit v=true then z_ S vars R c v (oH S R c v)else at' c (v:Int):=AE _ hv
theorem sN.step {S:x_} {vars:List EK} {t:Nat} {nv:Nat} {g:GR} (hc:sN g nv c):sN g nv (gZ S vars R c t):=⟨by rw[HV,hc.len],fun v hv=>by
 rw[KW (by rw[hc.len];exact hv)]
 split
 ·rw[HO,hc.row v hv]
 ·exact hc.row v hv⟩
end
end
end Go.Proofs.YtigggfnchamobaaGreatDoor
end
section
namespace Go.Proofs.YtigggfnchamobaaGreatDoor
open Go.Sx
section
def oA  (a2:Bool):Option (Bool):=
 some (a2)
def sY (U:Nat) (p0:Int):Option (Bool):=
 if(1:Int)<=p0 then(oA  (decide (p0<=(4:Int))))else(oA  (false))
theorem WJ:aP Tryz.prog 79:=Tryz.call79
theorem Gv (U:Nat) {p0:Int} (r:Bool) (h:sY U p0=some r):
  aU Tryz.prog 79 #[vI (p0)] [] (fun x:Unit=>vB (r)) (fun x l=>l) (fun _ l=>l):=by
 refine aU.of Tryz.func79 rfl Tryz.ntmps79 rfl fun c=>?_
 refine sqR<|qkAsg rfl<|dtN<|aH<|midU (fun a2=>oA  a2=some r) (fun a2 b3=>[(2,vB (a2))]) (fun a2 b3=>[]) ?_ ?_
 ·refine aM<|qkMove rfl<|aB (Fx rfl rfl) rfl<|qkMove rfl ?_
  refine B_ h rfl (fun _ h=>?_) fun _ h=>?_
  ·refine gyMove rfl<|aO rfl (yA rfl rfl) rfl<|qkPkT rfl<|qkAsg rfl<|dtN ?_
   exact jA (decide (p0<=(4:Int))) () h SF rfl
  refine gdSkip rfl<|gdSkip rfl<|qkPkF rfl<|qkAsg rfl<|dtN ?_
  exact jA (false) () h SF rfl
 intro a2 b3 h
 unfold oA at h
 refine aQ ?_
 cases h
 exact lF rfl
end
section
def uS (U:Nat) (p0:wX) (p1:dB) (p2:Int) (p3:a_) (p4:Int):Option (Int):=
 Option.bind (pQ U ((p0.1,p0.2.1,p0.2.2)) ((p1.1,p1.2)) p3) fun r3=>(if r3≠(0:Int)then(some (r3))else(Option.bind (sY U p2) fun r7=>(if(!r7)=true then(some (12:Int))else(if(4096:Int)<p4 then(some (3:Int))else(some (0:Int))))))
theorem WC:aP Tryz.prog 51:=Tryz.call51
theorem KZ (U:Nat) {p0:wX} {p1:dB} {p2:Int} {p3:a_} {p4:Int} (v0:Value)  (v1:Value)  (v2:Value)  (v3:Value)  (z4:nK)  (v5:Value)  (z6:qU) (r:Int) (h:uS U p0 p1 p2 p3 p4=some r):
  aU Tryz.prog 51 #[Value.agg #[vS (p0.1),v0,v1],Value.agg #[v2,v3],vI (p2),v5,vI (p4)] [Sl aJ v0 p0.2.1,Sl aF v1 p0.2.2,PF (Value.agg #[vS p0.1,v0,v1]),Sl bL v2 p1.1,S2 aW v3 z4 p1.2,S2 bL v5 z6 p3] (fun x:Unit=>vI (r)) (fun x l=>l) (fun _ l=>l):=by
 refine aU.of Tryz.func51 rfl Tryz.ntmps51 rfl fun c=>?_
 refine sqR<|aE (aI.box (cs:=[vS (p0.1),v0,v1]) rfl rfl) rfl fun b1=>aE (aI.box (cs:=[v2,v3]) rfl rfl) rfl fun b2=>qkAsg rfl<|dtN<|aH<|sqR<|qkLdA 1 rfl<|qkLdA 0 rfl<|qkMove rfl<|bnE h fun r3 w4 h=>aE (aI.callQ WI (GA U v0 v1 v2 v3 z4 v5 z6 r3 w4) rfl (nE [0,1,2,3,4,5] rfl)) rfl fun x5=>qkAsg rfl<|dtN<|sqR<|qkMove rfl<|qkNeq rfl<|dtN ?_
 refine eD h rfl (fun h=>?_) fun h=>?_
 ·refine sqR<|qkMove rfl<|qkAsg rfl<|dtN<|aQ<|aG ?_
  cases h
  exact uV rfl
 refine cG<|aH<|sqR<|qkMove rfl<|bnE h fun r7 w8 h=>aE (aI.callQ WJ (Gv U  r7 w8) rfl .nil) rfl fun x9=>aB (qY rfl) rfl<|dtN ?_
 refine Ah h rfl (fun _ h=>?_) fun _ h=>?_
 ·refine sqR<|qkAsg rfl<|dtN<|aQ<|aG ?_
  cases h
  exact uV rfl
 refine cG<|aH<|sqR<|qkMove rfl<|aB (uN rfl rfl) rfl<|dtN ?_
 refine eD h rfl (fun h=>?_) fun h=>?_
 ·refine sqR<|qkAsg rfl<|dtN<|aQ<|aG ?_
  cases h
  exact uV rfl
 refine cG<|sqR<|qkAsg rfl<|dtN<|aQ ?_
 cases h
 exact uV rfl
end
section
def qC (U:Nat) (p0:a_) (p1:Int) (p2:BL):Option (Unit):=
 some (())
theorem QE:aP Tryz.prog 53:=Tryz.call53
theorem Dj (U:Nat) {p0:a_} {p1:Int} {p2:BL} (v0:Value)  (z1:qU) (r:Unit) (h:qC U p0 p1 p2=some r):
  aU Tryz.prog 53 #[v0,vU (p1),Value.agg #[vI (p2.1),vI (p2.2.1),vI (p2.2.2.1),vI (p2.2.2.2.1),vU (p2.2.2.2.2)]] [S2 bL v0 z1 p0] (fun x:Unit=>Value.tuple #[]) (fun x l=>l) (fun _ l=>l):=by
 refine aU.of Tryz.func53 rfl Tryz.ntmps53 rfl fun c=>?_
 unfold qC at h
 refine aM<|aE (aI.box (cs:=[vI (p2.1),vI (p2.2.1),vI (p2.2.2.1),vI (p2.2.2.2.1),vU (p2.2.2.2.2)]) rfl rfl) rfl fun b1=>dY ?_
 cases h
 exact AT () rfl rfl .normal (.inr rfl) .nil aD.nil
end
section
def rS (U:Nat) (p0:Int):Option ((Int×Int×Int×Int×Int)):=
 some (((0:Int),(0:Int),(0:Int),(0:Int),(cQ .u32 p0 (16777215:Int))))
theorem TS:aP Tryz.prog 111:=Tryz.call111
theorem Ey (U:Nat) {p0:Int} (r:(Int×Int×Int×Int×Int)) (h:rS U p0=some r):
  aU Tryz.prog 111 #[vU (p0)] [] (fun x:Unit=>Value.agg #[vI (r.1),vI (r.2.1),vI (r.2.2.1),vI (r.2.2.2.1),vU (r.2.2.2.2)]) (fun x l=>l) (fun _ l=>l):=by
 refine aU.of Tryz.func111 rfl Tryz.ntmps111 rfl fun c=>?_
 unfold rS at h
 refine sqR<|aE (aI.alloc (cs:=SS) rfl rfl) rfl fun b1=>dtN<|sqR<|qkMove rfl<|qkAnd rfl ?_
 refine aB (Qm (r:=Value.agg #[vI (0:Int),vI (0:Int),vI (0:Int),vI (0:Int),vU (cQ .u32 p0 (16777215:Int))]) rfl (by intro w;simp[Instr.build,Instr.fill,dU,cX,cK,dV,dW,cY,eP])) rfl ?_
 refine bF 0 (vs:=[vI (0:Int),vI (0:Int),vI (0:Int),vI (0:Int),vU (cQ .u32 p0 (16777215:Int))]) rfl rfl rfl rfl rfl rfl<|dtN<|aQ ?_
 cases h
 exact fO () rfl rfl (RV.cell 0 rfl rfl rfl rfl) .nil aD.nil
end
section
def jW  (a1:Unit):Option (Bool):=
 some (true)
def fJ (p0:aL) (a5:Int) (ag4:(Int)->Option (Bool)):Option (Bool):=
 if a5<(List.length p0:Int)then(ck (0<=a5∧a5<(List.length p0:Int)) (if(rI .u32 (at' p0 a5) (16777215:Int))≠(0:Int)then(some (false))else(ag4 (wI .i64 (a5+(1:Int))))))else(jW  (()))
def eW (U:Nat) (p0:aL):Option (Bool):=
 bD (fJ p0) U (0:Int)
theorem Ng:aP Tryz.prog 136:=Tryz.call136
theorem wQ (U:Nat) {p0:aL} (v0:Value) (r:Bool) (h:eW U p0=some r):
  aU Tryz.prog 136 #[v0] [Sl xN v0 p0] (fun x:Unit=>vB (r)) (fun x l=>l) (fun _ l=>l):=by
 refine aU.of Tryz.func136 rfl Tryz.ntmps136 rfl fun c=>?_
 unfold eW at h
 refine sqR<|qkAsg rfl<|dtN<|aH<|midU (fun a1=>jW  a1=some r) (fun a1 b2=>[]) (fun a1 b2=>[]) ?_ ?_
 ·refine sqR<|qkMove rfl<|qkLen (aC.fact 0 rfl) rfl<|qkMove rfl<|dtN<|aN<|loopL (fJ p0) (fun a5 b6=>[(5,v0),(6,vI (List.length p0:Int)),(7,vI (a5))]) (fun a5 b6=>[]) (0:Int) () h SF (aT.refl _) ?_
  intro k7 a5 b6 h
  refine sqR<|qkLss rfl<|dtN<|aH ?_
  refine eD h rfl (fun h=>?_) fun h=>?_
  ·refine cG<|aH<|aN<|sqR<|ckE h fun j9 h=>aB (aY rfl rfl (aC.fact 0 rfl) rfl rfl j9) rfl<|aB (bR rfl (aC.fact 0 rfl) rfl rfl rfl BR j9) rfl<|qkAsg rfl<|dtN<|sqR<|qkMove rfl<|aB (Fv rfl rfl) rfl<|qkNeq rfl<|dtN ?_
   refine eD h rfl (fun h=>?_) fun h=>?_
   ·refine sqR<|qkAsg rfl<|dtN<|aQ<|bH<|aG<|aG<|bH<|aG ?_
    cases h
    exact lF rfl
   refine cS<|inT<|aM<|qkAdd rfl<|qkMove rfl<|dtN ?_
   exact yB (wI .i64 (a5+(1:Int))) () h SF rfl
  refine vT ?_
  exact jA () (()) h SF rfl
 intro a1 b2 h
 unfold jW at h
 refine sqR<|qkAsg rfl<|dtN<|aQ ?_
 cases h
 exact lF rfl
end
section
def iK  (a8:Bool):Option (Bool):=
 some (a8)
def fC (U:Nat) (p0:BL) (a3:Bool):Option (Bool):=
 if a3=true then(some (false))else(if(wI .i64 (p0.2.2.1+(1:Int)))<p0.2.2.2.1 then(some (false))else(if p0.1<=p0.2.1 then(if p0.2.1<=(wI .i64 ((24:Int)*p0.1))then(Option.bind (eW U ([p0.2.2.2.2])) fun r13=>(iK  (r13)))else(iK  (false)))else(iK  (false))))
def gW (U:Nat) (p0:BL):Option (Bool):=
 if p0.1<(0:Int)then(fC U p0 (true))else(if(4096:Int)<p0.1 then(fC U p0 (true))else(if p0.2.2.1<(0:Int)then(fC U p0 (true))else(if p0.2.2.2.1<p0.2.2.1 then(fC U p0 (true))else(fC U p0 (decide (p0.1<p0.2.2.2.1))))))
theorem Ub:aP Tryz.prog 135:=Tryz.call135
theorem Ez (U:Nat) {p0:BL} (r:Bool) (h:gW U p0=some r):
  aU Tryz.prog 135 #[Value.agg #[vI (p0.1),vI (p0.2.1),vI (p0.2.2.1),vI (p0.2.2.2.1),vU (p0.2.2.2.2)]] [] (fun x:Unit=>vB (r)) (fun x l=>l) (fun _ l=>l):=by
 refine aU.of Tryz.func135 rfl Tryz.ntmps135 rfl fun c=>?_
 refine sqR<|aE (aI.box (cs:=[vI (p0.1),vI (p0.2.1),vI (p0.2.2.1),vI (p0.2.2.2.1),vU (p0.2.2.2.2)]) rfl rfl) rfl fun b1=>qkAsg rfl<|dtN<|aH<|aH<|midU (fun a3=>fC U p0 a3=some r) (fun a3 b4=>[(1,vP b1),(29,vB (a3))]) (fun a3 b4=>[bM b1 [vI (p0.1),vI (p0.2.1),vI (p0.2.2.1),vI (p0.2.2.2.1),vU (p0.2.2.2.2)] 42]) ?_ ?_
 ·refine aM<|qkFld rfl<|qkLd 0 rfl<|qkLss rfl<|qkMove rfl ?_
  refine B_ h rfl (fun _ h=>?_) fun _ h=>?_
  ·refine gdSkip rfl<|gdSkip rfl<|gdSkip rfl<|qkPkT rfl<|qkMove rfl<|gdSkip rfl<|gdSkip rfl<|gdSkip rfl<|qkPkT rfl<|qkMove rfl<|gdSkip rfl<|gdSkip rfl<|gdSkip rfl<|gdSkip rfl<|gdSkip rfl<|qkPkT rfl<|qkMove rfl<|gdSkip rfl<|gdSkip rfl<|gdSkip rfl<|gdSkip rfl<|gdSkip rfl<|qkPkT rfl<|dtN ?_
   exact jA (true) () h SF rfl
  refine aO rfl (cP rfl rfl rfl rfl rfl) rfl<|aO rfl (dD 0 rfl rfl rfl rfl rfl) rfl<|aO rfl (uN rfl rfl) rfl<|qkPkF rfl<|qkMove rfl ?_
  refine B_ h rfl (fun _ h=>?_) fun _ h=>?_
  ·refine gdSkip rfl<|gdSkip rfl<|gdSkip rfl<|qkPkT rfl<|qkMove rfl<|gdSkip rfl<|gdSkip rfl<|gdSkip rfl<|gdSkip rfl<|gdSkip rfl<|qkPkT rfl<|qkMove rfl<|gdSkip rfl<|gdSkip rfl<|gdSkip rfl<|gdSkip rfl<|gdSkip rfl<|qkPkT rfl<|dtN ?_
   exact jA (true) () h SF rfl
  refine aO rfl (cP rfl rfl rfl rfl rfl) rfl<|aO rfl (dD 0 rfl rfl rfl rfl rfl) rfl<|aO rfl (JX rfl rfl) rfl<|qkPkF rfl<|qkMove rfl ?_
  refine B_ h rfl (fun _ h=>?_) fun _ h=>?_
  ·refine gdSkip rfl<|gdSkip rfl<|gdSkip rfl<|gdSkip rfl<|gdSkip rfl<|qkPkT rfl<|qkMove rfl<|gdSkip rfl<|gdSkip rfl<|gdSkip rfl<|gdSkip rfl<|gdSkip rfl<|qkPkT rfl<|dtN ?_
   exact jA (true) () h SF rfl
  refine aO rfl (cP rfl rfl rfl rfl rfl) rfl<|aO rfl (dD 0 rfl rfl rfl rfl rfl) rfl<|aO rfl (cP rfl rfl rfl rfl rfl) rfl<|aO rfl (dD 0 rfl rfl rfl rfl rfl) rfl<|aO rfl (uN rfl rfl) rfl<|qkPkF rfl<|qkMove rfl ?_
  refine B_ h rfl (fun _ h=>?_) fun _ h=>?_
  ·refine gdSkip rfl<|gdSkip rfl<|gdSkip rfl<|gdSkip rfl<|gdSkip rfl<|qkPkT rfl<|dtN ?_
   exact jA (true) () h SF rfl
  refine aO rfl (cP rfl rfl rfl rfl rfl) rfl<|aO rfl (dD 0 rfl rfl rfl rfl rfl) rfl<|aO rfl (cP rfl rfl rfl rfl rfl) rfl<|aO rfl (dD 0 rfl rfl rfl rfl rfl) rfl<|aO rfl (uN rfl rfl) rfl<|qkPkF rfl<|dtN ?_
  exact jA (decide (p0.1<p0.2.2.2.1)) () h SF rfl
 intro a3 b4 h
 refine Ah h rfl (fun _ h=>?_) fun _ h=>?_
 ·refine sqR<|qkAsg rfl<|dtN<|aQ<|aG ?_
  cases h
  exact uV rfl
 refine cG<|aH<|sqR<|qkFld rfl<|qkLd 0 rfl<|qkFld rfl<|qkLd 0 rfl<|qkAdd rfl<|aB (uN rfl rfl) rfl<|dtN ?_
 refine eD h rfl (fun h=>?_) fun h=>?_
 ·refine sqR<|qkAsg rfl<|dtN<|aQ<|aG ?_
  cases h
  exact uV rfl
 refine cG<|aH<|midU (fun a8=>iK  a8=some r) (fun a8 b9=>[(2,vB (a8))]) (fun a8 b9=>[]) ?_ ?_
 ·refine aM<|qkFld rfl<|qkLd 0 rfl<|qkFld rfl<|qkLd 0 rfl<|aB (yA rfl rfl) rfl<|qkMove rfl ?_
  refine B_ h rfl (fun _ h=>?_) fun _ h=>?_
  ·refine aO rfl (cP rfl rfl rfl rfl rfl) rfl<|aO rfl (dD 0 rfl rfl rfl rfl rfl) rfl<|aO rfl (cP rfl rfl rfl rfl rfl) rfl<|aO rfl (dD 0 rfl rfl rfl rfl rfl) rfl<|aO rfl (yX rfl rfl) rfl<|aO rfl (yA rfl rfl) rfl<|qkPkT rfl<|qkMove rfl ?_
   refine B_ h rfl (fun _ h=>?_) fun _ h=>?_
   ·refine aO rfl (cP rfl rfl rfl rfl rfl) rfl<|aO rfl (dD 0 rfl rfl rfl rfl rfl) rfl<|tZ rfl (bZ (e:=iV) ([p0.2.2.2.2]) [(0,vU (p0.2.2.2.2))] rfl rfl rfl rfl (nA (vU (p0.2.2.2.2)) rfl) rfl rfl rfl) rfl fun u12=>bnE h fun r13 w14 h=>tZ rfl (aI.callQ Ng (wQ U u12 r13 w14) rfl (aD.cons (aR (aC.res 0 rfl) jU) .nil)) rfl fun x15=>qkPkT rfl<|qkAsg rfl<|dtN ?_
    exact cE (r13) () h SF .nil (aD.refl _ _)
   refine gdSkip rfl<|gdSkip rfl<|gdSkip rfl<|gdSkip rfl<|qkPkF rfl<|qkAsg rfl<|dtN ?_
   exact cE (false) () h SF .nil (aD.refl _ _)
  refine gdSkip rfl<|gdSkip rfl<|gdSkip rfl<|gdSkip rfl<|gdSkip rfl<|gdSkip rfl<|qkPkF rfl<|qkMove rfl<|gdSkip rfl<|gdSkip rfl<|gdSkip rfl<|gdSkip rfl<|qkPkF rfl<|qkAsg rfl<|dtN ?_
  exact cE (false) () h SF .nil (aD.refl _ _)
 intro a8 b9 h
 unfold iK at h
 refine aQ ?_
 cases h
 exact lF rfl
end
section
def iR (U:Nat) (p0:Int):Option (Int):=
 ck (0<=(24:Int)) (ck (0<=(nP .u32 p0 (24:Int))∧(nP .u32 p0 (24:Int))<(List.length EN:Int)) (ck (0<=(16:Int)) (ck (0<=(cQ .u32 (nP .u32 p0 (16:Int)) (255:Int))∧(cQ .u32 (nP .u32 p0 (16:Int)) (255:Int))<(List.length EN:Int)) (ck (0<=(8:Int)) (ck (0<=(cQ .u32 (nP .u32 p0 (8:Int)) (255:Int))∧(cQ .u32 (nP .u32 p0 (8:Int)) (255:Int))<(List.length EN:Int)) (ck (0<=(cQ .u32 p0 (255:Int))∧(cQ .u32 p0 (255:Int))<(List.length EN:Int)) (some (wI .i64 (wI .u8 ((wI .u8 ((wI .u8 ((at' EN (nP .u32 p0 (24:Int)))+(at' EN (cQ .u32 (nP .u32 p0 (16:Int)) (255:Int)))))+(at' EN (cQ .u32 (nP .u32 p0 (8:Int)) (255:Int)))))+(at' EN (cQ .u32 p0 (255:Int)))))))))))))
theorem Uc:aP Tryz.prog 137:=Tryz.call137
theorem Cg (U:Nat) {p0:Int} (r:Int) (h:iR U p0=some r):
  aU Tryz.prog 137 #[vU (p0)] [] (fun x:Unit=>vI (r)) (fun x l=>l) (fun _ l=>l):=by
 refine aU.of Tryz.func137 rfl Tryz.ntmps137 rfl fun c=>?_
 refine sqR<|qkAsg rfl<|dtN<|aH ?_
 refine JR.start [0,1,3,0,8,24,56,127,0,256,768,1792,4095,0,8192,24576,65535,131071,262143] 16 mixedOrders (by decide +kernel) ?_
 refine JR.open (by exact rfl) ?_
 refine jkMove rfl<|ckE h fun j1 h=>jqN rfl (Cz rfl rfl j1)<|ckE h fun j2 h=>jqN rfl (yW rfl rfl rfl Iz j2)<|jkMove rfl<|ckE h fun j3 h=>jqN rfl (Cz rfl rfl j3)<|jqN rfl (JU rfl rfl)<|ckE h fun j4 h=>jqN rfl (yW rfl rfl rfl Iz j4)<|jqN rfl (sO rfl rfl)<|jkMove rfl<|ckE h fun j5 h=>jqN rfl (Cz rfl rfl j5)<|jqN rfl (JU rfl rfl)<|ckE h fun j6 h=>jqN rfl (yW rfl rfl rfl Iz j6)<|jqN rfl (sO rfl rfl)<|jkMove rfl<|jqN rfl (JU rfl rfl)<|ckE h fun j7 h=>jqN rfl (yW rfl rfl rfl Iz j7)<|bN 16 rfl rfl<|qkAdd rfl<|aB (LP rfl rfl rfl) rfl<|qkAsg rfl<|dtN<|aQ ?_
 cases h
 exact lF rfl
end
section
def mU (p0:BL) (r12:Int) (a17:eY):Option ((Int×Int×Int×Int×Int)×Int):=
 some ((((wI .i64 (p0.1+(1:Int))),(wI .i64 (p0.2.1+r12)),a17.1,(wI .i64 (p0.2.2.1+(1:Int))),a17.2)),(0:Int))
def mT (U:Nat) (p0:BL) (p1:Int) (p2:Int) (a8:Bool):Option ((Int×Int×Int×Int×Int)×Int):=
 if a8=true then(some ((((0:Int),(0:Int),(0:Int),(0:Int),(0:Int))),(11:Int)))else(if p0.1=(4096:Int)then(some ((((0:Int),(0:Int),(0:Int),(0:Int),(0:Int))),(3:Int)))else(Option.bind (iR U p1) fun r12=>(if(cQ .u32 (rI .u32 p0.2.2.2.2 p1) p2)=(0:Int)then(mU p0 r12 ((wI .i64 (p0.2.2.1+(1:Int))),p2))else(mU p0 r12 (p0.2.2.1,(cQ .u32 (rI .u32 p0.2.2.2.2 p1) p2))))))
def iZ (U:Nat) (p0:BL) (p1:Int) (p2:Int):Option ((Int×Int×Int×Int×Int)×Int):=
 Option.bind (gW U ((p0.1,p0.2.1,p0.2.2.1,p0.2.2.2.1,p0.2.2.2.2))) fun r3=>(if(!r3)=true then(some ((((0:Int),(0:Int),(0:Int),(0:Int),(0:Int))),(7:Int)))else(if p1=(0:Int)then(mT U p0 p1 p2 (true))else(Option.bind (eW U ([p1,p2])) fun r22=>(mT U p0 p1 p2 ((!r22))))))
theorem TV:aP Tryz.prog 114:=Tryz.call114
theorem G_ (U:Nat) {p0:BL} {p1:Int} {p2:Int} (r:(Int×Int×Int×Int×Int)×Int) (h:iZ U p0 p1 p2=some r):
  aU Tryz.prog 114 #[Value.agg #[vI (p0.1),vI (p0.2.1),vI (p0.2.2.1),vI (p0.2.2.2.1),vU (p0.2.2.2.2)],vU (p1),vU (p2)] [] (fun x:Unit=>Value.tuple #[Value.agg #[vI (r.1.1),vI (r.1.2.1),vI (r.1.2.2.1),vI (r.1.2.2.2.1),vU (r.1.2.2.2.2)],vI (r.2)]) (fun x l=>l) (fun _ l=>l):=by
 refine aU.of Tryz.func114 rfl Tryz.ntmps114 rfl fun c=>?_
 refine sqR<|aE (aI.box (cs:=[vI (p0.1),vI (p0.2.1),vI (p0.2.2.1),vI (p0.2.2.2.1),vU (p0.2.2.2.2)]) rfl rfl) rfl fun b1=>aE (aI.alloc (cs:=SS) rfl rfl) rfl fun b2=>qkAsg rfl<|dtN<|aH<|sqR<|qkLdA 1 rfl<|bnE h fun r3 w4 h=>aE (aI.callQ Ub (Ez U  r3 w4) rfl .nil) rfl fun x5=>aB (qY rfl) rfl<|dtN ?_
 refine Ah h rfl (fun _ h=>?_) fun _ h=>?_
 ·refine sqR ?_
  refine aB (Fw (r:=Value.agg #[vI (0:Int),vI (0:Int),vI (0:Int),vI (0:Int),vU (0:Int)]) (by intro w;simp[Instr.build,Instr.fill,dU,cX,cK,dV,dW,cY,eP])) rfl ?_
  refine bF 0 (vs:=SS) rfl rfl rfl rfl rfl rfl<|qkAsg rfl<|dtN<|aQ<|aG ?_
  cases h
  exact iX () rfl rfl (RV.cell 0 rfl rfl rfl rfl) (RV.tmp rfl) .nil aD.nil
 refine cG<|aH<|aH<|midU (fun a8=>mT U p0 p1 p2 a8=some r) (fun a8 b9=>[(1,vU (p1)),(2,vU (p2)),(3,vP b1),(6,vP b2),(20,vB (a8))]) (fun a8 b9=>[bM b2 SS 42,bM b1 [vI (p0.1),vI (p0.2.1),vI (p0.2.2.1),vI (p0.2.2.2.1),vU (p0.2.2.2.2)] 42]) ?_ ?_
 ·refine aM<|qkMove rfl<|qkEql rfl<|qkMove rfl ?_
  refine B_ h rfl (fun _ h=>?_) fun _ h=>?_
  ·refine gdSkip rfl<|gdSkip rfl<|gdSkip rfl<|gdSkip rfl<|gdSkip rfl<|qkPkT rfl<|dtN ?_
   exact jA (true) () h SF rfl
  refine gyMove rfl<|gyMove rfl<|tZ rfl (bZ (e:=iV) ([p1,p2]) [(0,vU (p1)),(1,vU (p2))] rfl rfl rfl rfl (Ko (vU (p1)) (vU (p2)) rfl rfl) rfl rfl rfl) rfl fun u21=>bnE h fun r22 w23 h=>tZ rfl (aI.callQ Ng (wQ U u21 r22 w23) rfl (aD.cons (aR (aC.res 0 rfl) jU) .nil)) rfl fun x24=>aO rfl (qY rfl) rfl<|qkPkF rfl<|dtN ?_
  exact cE ((!r22)) () h SF (aT.ix [1,2] rfl rfl) (aD.refl _ _)
 intro a8 b9 h
 refine Ah h rfl (fun _ h=>?_) fun _ h=>?_
 ·refine sqR ?_
  refine aB (Fw (r:=Value.agg #[vI (0:Int),vI (0:Int),vI (0:Int),vI (0:Int),vU (0:Int)]) (by intro w;simp[Instr.build,Instr.fill,dU,cX,cK,dV,dW,cY,eP])) rfl ?_
  refine bF 0 (vs:=SS) rfl rfl rfl rfl rfl rfl<|qkAsg rfl<|dtN<|aQ<|aG ?_
  cases h
  exact iX () rfl rfl (RV.cell 0 rfl rfl rfl rfl) (RV.tmp rfl) .nil aD.nil
 refine cG<|aH<|sqR<|qkFld rfl<|qkLd 1 rfl<|qkEql rfl<|dtN ?_
 refine eD h rfl (fun h=>?_) fun h=>?_
 ·refine sqR ?_
  refine aB (Fw (r:=Value.agg #[vI (0:Int),vI (0:Int),vI (0:Int),vI (0:Int),vU (0:Int)]) (by intro w;simp[Instr.build,Instr.fill,dU,cX,cK,dV,dW,cY,eP])) rfl ?_
  refine bF 0 (vs:=SS) rfl rfl rfl rfl rfl rfl<|qkAsg rfl<|dtN<|aQ<|aG ?_
  cases h
  exact iX () rfl rfl (RV.cell 0 rfl rfl rfl rfl) (RV.tmp rfl) .nil aD.nil
 refine cG<|sqR<|qkFld rfl<|qkLd 1 rfl<|qkAdd rfl<|qkFld rfl<|eR 1 rfl rfl rfl rfl rfl rfl<|dtN<|aH ?_
 refine JR.start [0,1,0,4,15,31,63] 4 mixedOrders (by decide +kernel) ?_
 refine JR.open (by exact rfl) ?_
 refine jkFld rfl<|jkLd 1 rfl<|jkMove rfl<|bnE h fun r12 w13 h=>JR.loud rfl rfl rfl (aI.callQ Uc (Cg U  r12 w13) rfl .nil) rfl (fun x14=>(n_ [([1],[])] rfl)) fun x14=>bN 4 rfl rfl<|qkAdd rfl<|qkFld rfl<|eR 1 rfl rfl rfl rfl rfl rfl<|dtN<|sqR<|qkFld rfl<|qkLd 1 rfl<|qkAdd rfl<|qkFld rfl<|eR 1 rfl rfl rfl rfl rfl rfl<|dtN<|sqR<|qkFld rfl<|qkLd 1 rfl<|qkMove rfl<|aB (Fv rfl rfl) rfl<|qkMove rfl<|qkAnd rfl<|qkFld rfl<|eR 1 rfl rfl rfl rfl rfl rfl<|dtN<|aH<|midU (fun a17=>mU p0 r12 a17=some r) (fun a17 b18=>[(3,vP b1),(6,vP b2)]) (fun a17 b18=>[bM b2 SS 42,bM b1 [vI (wI .i64 (p0.1+(1:Int))),vI (wI .i64 (p0.2.1+r12)),vI (a17.1),vI (wI .i64 (p0.2.2.1+(1:Int))),vU (a17.2)] 42]) ?_ ?_
 ·refine sqR<|qkFld rfl<|qkLd 1 rfl<|qkEql rfl<|dtN ?_
  refine eD h rfl (fun h=>?_) fun h=>?_
  ·refine sqR<|qkFld rfl<|qkLd 1 rfl<|qkFld rfl<|eR 1 rfl rfl rfl rfl rfl rfl<|dtN<|aM<|qkMove rfl<|qkFld rfl<|eR 1 rfl rfl rfl rfl rfl rfl<|dtN ?_
   exact jA ((wI .i64 (p0.2.2.1+(1:Int))),p2) () h SF rfl
  refine cG ?_
  exact jA (p0.2.2.1,(cQ .u32 (rI .u32 p0.2.2.2.2 p1) p2)) () h SF rfl
 intro a17 b18 h
 unfold mU at h
 refine sqR<|qkLdA 1 rfl<|bF 0 (vs:=[vI (wI .i64 (p0.1+(1:Int))),vI (wI .i64 (p0.2.1+r12)),vI (a17.1),vI (wI .i64 (p0.2.2.1+(1:Int))),vU (a17.2)]) rfl rfl rfl rfl rfl rfl<|qkAsg rfl<|dtN<|aQ ?_
 cases h
 exact iX () rfl rfl (RV.cell 0 rfl rfl rfl rfl) (RV.tmp rfl) .nil aD.nil
end
end Go.Proofs.YtigggfnchamobaaGreatDoor
end
