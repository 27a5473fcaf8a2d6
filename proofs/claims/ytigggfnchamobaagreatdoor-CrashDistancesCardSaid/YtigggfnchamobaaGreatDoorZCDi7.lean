/- Models and proofs. Conditions: none. -/
import Derived.Test.YtigggfnchamobaaGreatDoorZCDi5
import Derived.Test.YtigggfnchamobaaGreatDoorZCDi6
import Derived.Test.YtigggfnchamobaaGreatDoorZCDi2
set_option linter.unusedVariables false
set_option linter.unusedSimpArgs false
set_option maxHeartbeats 4000000
set_option maxRecDepth 20000
section
namespace Go.Proofs.YtigggfnchamobaaGreatDoor
open Go.Sx
section
def rS  (a7:eF):Option (eF):=
 some (a7)
def rT (a13:Int×eF) (ag12:(Int×eF)->Option (eF)) (a19:eF):Option (eF):=
 ag12 ((wI .i64 (a13.1+(1:Int))),a19)
def lL (U:Nat) (p0:rO) (p1:cM) (a13:Int×eF) (ag12:(Int×eF)->Option (eF)) (a28:Int×eF) (ag27:(Int×eF)->Option (eF)):Option (eF):=
 if a28.1<(List.length p0.2.1:Int)then(ck (0<=a28.1∧a28.1<(List.length p0.2.1:Int)) (ck (0<=a13.1∧a13.1<(List.length a28.2:Int)) (ck (0<=a13.1∧a13.1<(List.length a28.2:Int)) (Option.bind (g_ U ((((at' p0.2.1 a28.1).1),((at' p0.2.1 a28.1).2.1),((at' p0.2.1 a28.1).2.2.1),((at' p0.2.1 a28.1).2.2.2.1),((at' p0.2.1 a28.1).2.2.2.2.1),((at' p0.2.1 a28.1).2.2.2.2.2))) ((p1.1,p1.2)) a13.1) fun r40=>(ck (0<=a28.1∧a28.1<(List.length (at' a28.2 a13.1):Int)) (ck (0<=a28.1∧a28.1<(List.length (at' (List.set a28.2 (Int.toNat a13.1) (List.set (at' a28.2 a13.1) (Int.toNat a28.1) (r40.1,((at' (at' a28.2 a13.1) a28.1).2)))) a13.1):Int)) (ag27 ((wI .i64 (a28.1+(1:Int))),(List.set (List.set a28.2 (Int.toNat a13.1) (List.set (at' a28.2 a13.1) (Int.toNat a28.1) (r40.1,((at' (at' a28.2 a13.1) a28.1).2)))) (Int.toNat a13.1) (List.set (at' (List.set a28.2 (Int.toNat a13.1) (List.set (at' a28.2 a13.1) (Int.toNat a28.1) (r40.1,((at' (at' a28.2 a13.1) a28.1).2)))) a13.1) (Int.toNat a28.1) (((at' (at' (List.set a28.2 (Int.toNat a13.1) (List.set (at' a28.2 a13.1) (Int.toNat a28.1) (r40.1,((at' (at' a28.2 a13.1) a28.1).2)))) a13.1) a28.1).1),r40.2)))))))))))else(rT a13 ag12 (a28.2))
def jU (U:Nat) (p0:rO) (p1:cM) (a13:Int×eF) (ag12:(Int×eF)->Option (eF)):Option (eF):=
 if a13.1<(List.length (List.replicate (Int.toNat (List.length p1.1:Int)) ([]:eD)):Int)then(ck (0<=(List.length p0.2.1:Int)∧(List.length p0.2.1:Int)<=1099511627) (ck (0<=a13.1∧a13.1<(List.length a13.2:Int)) (bE (lL U p0 p1 a13 ag12) U ((0:Int),(List.set a13.2 (Int.toNat a13.1) (List.replicate (Int.toNat (List.length p0.2.1:Int)) ((0:Int),(0:Int))))))))else(rS  (a13.2))
def gT (U:Nat) (p0:rO) (p1:cM):Option (eF):=
 ck (0<=(List.length p1.1:Int)∧(List.length p1.1:Int)<=1099511627) (bE (jU U p0 p1) U ((0:Int),(List.replicate (Int.toNat (List.length p1.1:Int)) ([]:eD))))
theorem Mm:aO Tryz.prog 85:=Tryz.call85
theorem w_ (U:Nat) {p0:rO} {p1:cM} (v0:Value)  (v1:Value)  (v2:Value)  (v3:Value)  (z4:mB) (r:eF) (h:gT U p0 p1=some r):
  aT Tryz.prog 85 #[Value.agg #[vS (p0.1),v0,v1],Value.agg #[v2,v3]] [Sl aG v0 p0.2.1,Sl aE v1 p0.2.2,PF (Value.agg #[vS p0.1,v0,v1]),Sl bD v2 p1.1,S2 aV v3 z4 p1.2] (fun x:Value×List Value=>x.1) (fun x l=>Ar cZ.raw x.1 x.2::jK bS x.2 r::l) (fun _ l=>l):=by
 refine aT.of Tryz.func85 rfl Tryz.ntmps85 rfl fun c=>?_
 refine sqR<|aF (aJ.box (cs:=[vS (p0.1),v0,v1]) rfl rfl) rfl fun b1=>aF (aJ.box (cs:=[v2,v3]) rfl rfl) rfl fun b2=>qkAsg rfl<|dtN<|sqR<|qkFld rfl<|qkLd 0 rfl<|qkLen (aC.fact 3 rfl) rfl<|ckE h fun j3 h=>jN (sN bS (Int.toNat (List.length p1.1:Int)))<|aF (nT (e:=cZ.raw) (kK) rfl rfl rfl rfl j3 rfl rfl rfl) rfl fun u4=>qkAsg rfl<|dtN<|aI<|midL (B:=fJ) (fun a7=>rS  a7=some r) (fun a7 b8=>[(5,u4)]) (fun a7 b8=>[Ar cZ.raw u4 b8,jK bS b8 a7]) ?_ ?_
 ·refine sqR<|qkMove rfl<|aB (iM rfl (bF (i:=0) (j:=1) rfl rfl bJ) rfl) rfl<|qkMove rfl<|dtN<|aN<|loopL (B:=fJ) (jU U p0 p1) (fun a13 b14=>[(2,vP b1),(3,vP b2),(5,u4),(14,vI (List.length (List.replicate (Int.toNat (List.length p1.1:Int)) ([]:eD)):Int)),(15,vI (a13.1))]) (fun a13 b14=>[Ar cZ.raw u4 b14,jK bS b14 a13.2,bM b2 [v2,v3] 28,bM b1 [vS (p0.1),v0,v1] 33]) ((0:Int),(List.replicate (Int.toNat (List.length p1.1:Int)) ([]:eD))) (List.replicate (Int.toNat (List.length p1.1:Int)) (kK)) h SF (aQ.refl _) ?_
  intro k15 a13 b14 h
  refine sqR<|qkLss rfl<|dtN<|aI ?_
  refine eB h rfl (fun h=>?_) fun h=>?_
  ·refine cI<|aI<|midL (B:=fJ) (fun a19=>rT a13 (bE (jU U p0 p1) k15) a19=some r) (fun a19 b20=>[(2,vP b1),(3,vP b2),(5,u4),(14,vI (List.length (List.replicate (Int.toNat (List.length p1.1:Int)) ([]:eD)):Int)),(15,vI (a13.1))]) (fun a19 b20=>[Ar cZ.raw u4 b20,jK bS b20 a19,bM b2 [v2,v3] 28,bM b1 [vS (p0.1),v0,v1] 33]) ?_ ?_
   ·refine aN<|sqR<|qkMove rfl<|qkAsg rfl<|dtN<|sqR<|qkMove rfl<|qkMove rfl<|qkFld rfl<|qkLd 3 rfl<|qkLen (aC.fact 0 rfl) rfl<|ckE h fun j21 h=>aF (nT (e:=bS) (((0:Int),(0:Int))) rfl rfl rfl rfl j21 rfl rfl rfl) rfl fun u22=>ckE h fun j23 h=>aB (cK rfl rfl (bF (i:=1) (j:=2) rfl rfl bJ) rfl rfl j23) rfl<|bQ (Know.one ((aU (aC.res 0 rfl) bJ))) fun ho24=>jN (tZ (k:=a13.1) 2 0 rfl rfl rfl j23) ?_
    refine mD 0 1 ⟨j23.1,by first|exact j23.2|simpa using j23.2⟩ rfl rfl rfl rfl rfl (by simp) ho24 rfl ?_
    refine dtN<|sqR<|qkFld rfl<|qkLd 3 rfl<|qkLen (aC.fact 0 rfl) rfl<|qkMove rfl<|dtN<|aN<|loopL (lL U p0 p1 a13 (bE (jU U p0 p1) k15)) (fun a28 b29=>[(2,vP b1),(3,vP b2),(5,u4),(6,vI (a13.1)),(14,vI (List.length (List.replicate (Int.toNat (List.length p1.1:Int)) ([]:eD)):Int)),(15,vI (a13.1)),(26,v0),(27,vI (List.length p0.2.1:Int)),(28,vI (a28.1))]) (fun a28 b29=>[Ar cZ.raw u4 (List.set b14 (Int.toNat a13.1) u22),jK bS (List.set b14 (Int.toNat a13.1) u22) a28.2,bM b2 [v2,v3] 28,bM b1 [vS (p0.1),v0,v1] 33]) ((0:Int),(List.set a13.2 (Int.toNat a13.1) (List.replicate (Int.toNat (List.length p0.2.1:Int)) ((0:Int),(0:Int))))) () h SF (aQ.refl _) ?_
    intro k30 a28 b29 h
    refine sqR<|qkLss rfl<|dtN<|aI ?_
    refine eB h rfl (fun h=>?_) fun h=>?_
    ·refine cI<|aI<|aN<|sqR<|qkMove rfl<|ckE h fun j32 h=>aB (aY rfl rfl (aC.fact 0 rfl) rfl rfl j32) rfl<|aB (fL (cs:=[vS ((at' p0.2.1 a28.1).1),vI ((at' p0.2.1 a28.1).2.1),vI ((at' p0.2.1 a28.1).2.2.1),vI ((at' p0.2.1 a28.1).2.2.2.1),vI ((at' p0.2.1 a28.1).2.2.2.2.1),vI ((at' p0.2.1 a28.1).2.2.2.2.2)]) rfl (aC.fact 0 rfl) qQ rfl rfl rfl rfl j32) rfl<|aF (aJ.alloc (cs:=ZY) rfl rfl) rfl fun b33=>qkAsg rfl<|bH 0 (vs:=[vS ((at' p0.2.1 a28.1).1),vI ((at' p0.2.1 a28.1).2.1),vI ((at' p0.2.1 a28.1).2.2.1),vI ((at' p0.2.1 a28.1).2.2.2.1),vI ((at' p0.2.1 a28.1).2.2.2.2.1),vI ((at' p0.2.1 a28.1).2.2.2.2.2)]) rfl rfl rfl rfl rfl rfl<|dtN ?_
     refine JR.start [0,0,3,7,0,0,0,96,224,0,0,0,0,7168,15360,31744,31744,31,196095,458239,992,2097151,4194303] 21 mixedOrders (by decide +kernel) ?_
     refine JR.open (by exact rfl) ?_
     refine jkMove rfl<|jkMove rfl<|ckE h fun j34 h=>bZ (bW 2 rfl) fun hl35=>?_
     refine bG rfl (aQ.cons 1 rfl .nil) .nil (fH 0 rfl rfl rfl rfl rfl j34.1 (by have q1:=j34.2;have q2:=hl35;(try simp only[List.length_set]at q1);(try simp only[List.length_set]at q2);(try simp only[List.length_set]);omega)) aK.z ?_
     refine bZ (bW 2 rfl) fun hl36=>bG rfl (aQ.cons 1 rfl .nil) .nil (jO 0 rfl rfl hl36 rfl rfl j34) aK.z<|jkMove rfl<|jkMove rfl<|jkMove rfl<|ckE h fun j37 h=>bZ (bW 2 rfl) fun hl38=>?_
     refine bG rfl (aQ.cons 1 rfl .nil) .nil (fH 0 rfl rfl rfl rfl rfl j37.1 (by have q1:=j37.2;have q2:=hl38;(try simp only[List.length_set]at q1);(try simp only[List.length_set]at q2);(try simp only[List.length_set]);omega)) aK.z ?_
     refine bZ (bW 2 rfl) fun hl39=>bG rfl (aQ.cons 1 rfl .nil) .nil (jO 0 rfl rfl hl39 rfl rfl j37) aK.z<|jkMove rfl<|jkLdA 0 rfl<|jkLdA 3 rfl<|jkMove rfl<|bnE h fun r40 w41 h=>JR.loud rfl rfl rfl (aJ.callQ Nv (Al U v2 v3 z4 r40 w41) rfl (oI [3,4] rfl)) rfl (fun x42=>(rA [([1],[]),([1],[]),([1],[]),([1],[])] rfl)) fun x42=>jqN rfl (kM rfl)<|jqN rfl (mW rfl rfl)<|jqN rfl (mW rfl rfl)<|ckE h fun j43 h=>bZ (Know.len (aC.row (j:=2) rfl bJ j34.1 j34.2)) fun hl44=>jqN rfl (FN rfl rfl hl44 rfl rfl j43) ?_
     refine jqN rfl (Bh (i:=0) rfl rfl rfl rfl rfl (by decide)) ?_
     refine uU rfl rfl rfl (AA (us:=[vI (r40.1)]) (o:=0) (k:=a13.1) 2 ((r40.1,((at' (at' a28.2 a13.1) a28.1).2))) ⟨j34.1,by first|exact j34.2|simpa using j34.2⟩ j43 rfl rfl rfl rfl rfl rfl rfl rfl rfl rfl) (fun x45=>(rA [] rfl)) fun x45=>ckE h fun j46 h=>bZ (Know.len (aC.row (j:=2) rfl bJ j37.1 (by first|exact j37.2|simpa using j37.2))) fun hl47=>?_
     refine jqN rfl (FN rfl rfl hl47 rfl rfl j46)<|bO 21 rfl rfl ?_
     refine aB (Bh (i:=1) rfl rfl rfl rfl rfl (by decide)) rfl ?_
     refine Nm (AA (us:=[vI (r40.2)]) (o:=1) (k:=a13.1) 2 ((((at' (at' (List.set a28.2 (Int.toNat a13.1) (List.set (at' a28.2 a13.1) (Int.toNat a28.1) (r40.1,((at' (at' a28.2 a13.1) a28.1).2)))) a13.1) a28.1).1),r40.2)) ⟨j37.1,by first|exact j37.2|simpa using j37.2⟩ j46 rfl rfl rfl rfl rfl rfl rfl rfl rfl rfl) fun x48=>dY<|inT<|aM<|qkAdd rfl<|qkMove rfl<|dtN ?_
     exact lS ((wI .i64 (a28.1+(1:Int))),(List.set (List.set a28.2 (Int.toNat a13.1) (List.set (at' a28.2 a13.1) (Int.toNat a28.1) (r40.1,((at' (at' a28.2 a13.1) a28.1).2)))) (Int.toNat a13.1) (List.set (at' (List.set a28.2 (Int.toNat a13.1) (List.set (at' a28.2 a13.1) (Int.toNat a28.1) (r40.1,((at' (at' a28.2 a13.1) a28.1).2)))) a13.1) (Int.toNat a28.1) (((at' (at' (List.set a28.2 (Int.toNat a13.1) (List.set (at' a28.2 a13.1) (Int.toNat a28.1) (r40.1,((at' (at' a28.2 a13.1) a28.1).2)))) a13.1) a28.1).1),r40.2)))) () h SF (aQ.ix [1,2,3,4] rfl rfl) (aD.refl _ _)
    refine oY<|dH<|dH<|tS<|inT ?_
    exact jV (a28.2) (List.set b14 (Int.toNat a13.1) u22) h SF rfl
   intro a19 b20 h
   unfold rT at h
   refine aM<|qkAdd rfl<|qkMove rfl<|dtN ?_
   exact yF ((wI .i64 (a13.1+(1:Int))),a19) (b20) h SF rfl
  refine vT ?_
  exact bY (a13.2) (b14) h SF (aQ.ix [0,1] rfl rfl) (aD.refl _ _)
 intro a7 b8 h
 unfold rS at h
 refine sqR<|qkMove rfl<|qkAsg rfl<|dtN<|aP ?_
 cases h
 exact fS (u4,b8) rfl rfl (RV.tmp rfl) (aQ.refl _) aD.nil
end
section
def tA  (a11:Unit):Option (Int):=
 some (0:Int)
def nD (a15:Int) (ag14:(Int)->Option (Int)) (a19:Unit):Option (Int):=
 ag14 (wI .i64 (a15+(1:Int)))
def tB (a15:Int) (ag14:(Int)->Option (Int)) (a28:Bool):Option (Int):=
 if a28=true then(some (9:Int))else(nD a15 ag14 (()))
def kQ (U:Nat) (p0:rO) (p1:cM) (a15:Int) (ag14:(Int)->Option (Int)):Option (Int):=
 if a15<(List.length p0.2.1:Int)then(ck (0<=a15∧a15<(List.length p0.2.1:Int)) (if((at' p0.2.1 a15).2.1)≠(1:Int)then(nD a15 ag14 (()))else(Option.bind (g_ U ((((at' p0.2.1 a15).1),((at' p0.2.1 a15).2.1),((at' p0.2.1 a15).2.2.1),((at' p0.2.1 a15).2.2.2.1),((at' p0.2.1 a15).2.2.2.2.1),((at' p0.2.1 a15).2.2.2.2.2))) ((p1.1,p1.2)) (0:Int)) fun r24=>(if r24.2<r24.1 then(tB a15 ag14 (true))else(tB a15 ag14 (decide ((4096:Int)<(wI .i64 ((wI .i64 (r24.2 - r24.1))+(1:Int))))))))))else(tA  (()))
def rC (U:Nat) (p0:rO) (p1:cM):Option (Int):=
 Option.bind (yB U ((p0.1,p0.2.1,p0.2.2))) fun r3=>(if(!r3)=true then(some (8:Int))else(Option.bind (fC U ((p1.1,p1.2))) fun r7=>(if(!r7)=true then(some (1:Int))else(bE (kQ U p0 p1) U (0:Int)))))
theorem Uh:aO Tryz.prog 108:=Tryz.call108
theorem Hp (U:Nat) {p0:rO} {p1:cM} (v0:Value)  (v1:Value)  (v2:Value)  (v3:Value)  (z4:mB) (r:Int) (h:rC U p0 p1=some r):
  aT Tryz.prog 108 #[Value.agg #[vS (p0.1),v0,v1],Value.agg #[v2,v3]] [Sl aG v0 p0.2.1,Sl aE v1 p0.2.2,PF (Value.agg #[vS p0.1,v0,v1]),Sl bD v2 p1.1,S2 aV v3 z4 p1.2] (fun x:Unit=>vI (r)) (fun x l=>l) (fun _ l=>l):=by
 refine aT.of Tryz.func108 rfl Tryz.ntmps108 rfl fun c=>?_
 refine sqR<|aF (aJ.box (cs:=[vS (p0.1),v0,v1]) rfl rfl) rfl fun b1=>aF (aJ.box (cs:=[v2,v3]) rfl rfl) rfl fun b2=>qkAsg rfl<|dtN<|aI<|sqR<|qkLdA 1 rfl<|bnE h fun r3 w4 h=>aF (aJ.callQ Nw (Hu U v0 v1 r3 w4) rfl (oI [0,1,2] rfl)) rfl fun x5=>aB (qL rfl) rfl<|dtN ?_
 refine As h rfl (fun _ h=>?_) fun _ h=>?_
 ·refine sqR<|qkAsg rfl<|dtN<|aP<|aH ?_
  cases h
  exact tV rfl
 refine cI<|aI<|sqR<|qkLdA 0 rfl<|bnE h fun r7 w8 h=>aF (aJ.callQ IP (uQ U v2 v3 z4 r7 w8) rfl (oI [3,4] rfl)) rfl fun x9=>aB (qL rfl) rfl<|dtN ?_
 refine As h rfl (fun _ h=>?_) fun _ h=>?_
 ·refine sqR<|qkAsg rfl<|dtN<|aP<|aH ?_
  cases h
  exact tV rfl
 refine cI<|aI<|midU (fun a11=>tA  a11=some r) (fun a11 b12=>[]) (fun a11 b12=>[]) ?_ ?_
 ·refine sqR<|qkFld rfl<|qkLd 1 rfl<|qkLen (aC.fact 0 rfl) rfl<|qkMove rfl<|dtN<|aN<|loopL (kQ U p0 p1) (fun a15 b16=>[(3,vP b2),(16,v0),(17,vI (List.length p0.2.1:Int)),(18,vI (a15))]) (fun a15 b16=>[bM b2 [v2,v3] 28]) (0:Int) () h SF (aQ.ix [0] rfl rfl) ?_
  intro k17 a15 b16 h
  refine sqR<|qkLss rfl<|dtN<|aI ?_
  refine eB h rfl (fun h=>?_) fun h=>?_
  ·refine cI<|aI<|midU (fun a19=>nD a15 (bE (kQ U p0 p1) k17) a19=some r) (fun a19 b20=>[(3,vP b2),(16,v0),(17,vI (List.length p0.2.1:Int)),(18,vI (a15))]) (fun a19 b20=>[bM b2 [v2,v3] 28]) ?_ ?_
   ·refine aN<|sqR<|ckE h fun j21 h=>aB (aY rfl rfl (aC.fact 0 rfl) rfl rfl j21) rfl<|aB (fL (cs:=[vS ((at' p0.2.1 a15).1),vI ((at' p0.2.1 a15).2.1),vI ((at' p0.2.1 a15).2.2.1),vI ((at' p0.2.1 a15).2.2.2.1),vI ((at' p0.2.1 a15).2.2.2.2.1),vI ((at' p0.2.1 a15).2.2.2.2.2)]) rfl (aC.fact 0 rfl) qQ rfl rfl rfl rfl j21) rfl<|aF (aJ.alloc (cs:=ZY) rfl rfl) rfl fun b22=>bH 0 (vs:=[vS ((at' p0.2.1 a15).1),vI ((at' p0.2.1 a15).2.1),vI ((at' p0.2.1 a15).2.2.1),vI ((at' p0.2.1 a15).2.2.2.1),vI ((at' p0.2.1 a15).2.2.2.2.1),vI ((at' p0.2.1 a15).2.2.2.2.2)]) rfl rfl rfl rfl rfl rfl<|dtN<|aI<|sqR<|qkFld rfl<|qkLd 0 rfl<|qkNeq rfl<|dtN ?_
    refine eB h rfl (fun h=>?_) fun h=>?_
    ·refine oY<|dH<|tS<|xG ?_
     exact bY () (()) h SF (aQ.ix [1] rfl rfl) (aD.refl _ _)
    refine cI<|sqR<|qkLdA 0 rfl<|qkLdA 1 rfl<|bnE h fun r24 w25 h=>aF (aJ.callQ Nv (Al U v2 v3 z4 r24 w25) rfl (oI [3,4] rfl)) rfl fun x26=>qkMove rfl<|qkExt rfl<|qkExt rfl<|qkAsg rfl<|qkAsg rfl<|dtN<|aI<|midU (fun a28=>tB a15 (bE (kQ U p0 p1) k17) a28=some r) (fun a28 b29=>[(3,vP b2),(16,v0),(17,vI (List.length p0.2.1:Int)),(18,vI (a15)),(40,vB (a28))]) (fun a28 b29=>[bM b2 [v2,v3] 28]) ?_ ?_
    ·refine aM<|qkMove rfl<|qkMove rfl<|qkLss rfl<|qkMove rfl ?_
     refine Cv h rfl (fun _ h=>?_) fun _ h=>?_
     ·refine gdSkip rfl<|gdSkip rfl<|gdSkip rfl<|gdSkip rfl<|gdSkip rfl<|qkPkT rfl<|dtN ?_
      exact bY (true) () h SF (aQ.ix [1] rfl rfl) (aD.refl _ _)
     refine gyMove rfl<|gyMove rfl<|aR rfl (pR rfl rfl) rfl<|aR rfl (pQ rfl rfl) rfl<|aR rfl (uX rfl rfl) rfl<|qkPkF rfl<|dtN ?_
     exact bY (decide ((4096:Int)<(wI .i64 ((wI .i64 (r24.2 - r24.1))+(1:Int))))) () h SF (aQ.ix [1] rfl rfl) (aD.refl _ _)
    intro a28 b29 h
    refine As h rfl (fun _ h=>?_) fun _ h=>?_
    ·refine sqR<|qkAsg rfl<|dtN<|aP<|bK<|aH<|aH<|bK<|aH ?_
     cases h
     exact tV rfl
    refine cU<|inT ?_
    exact jV () (()) h SF rfl
   intro a19 b20 h
   unfold nD at h
   refine aM<|qkAdd rfl<|qkMove rfl<|dtN ?_
   exact yF (wI .i64 (a15+(1:Int))) () h SF rfl
  refine vT ?_
  exact bY () (()) h SF .nil (aD.refl _ _)
 intro a11 b12 h
 unfold tA at h
 refine sqR<|qkAsg rfl<|dtN<|aP ?_
 cases h
 exact lI rfl
end
section
def r_  (a2:Unit):Option (Bool):=
 some (true)
def sA (a6:Int) (ag5:(Int)->Option (Bool)) (a12:Bool):Option (Bool):=
 if a12=true then(some (false))else(ag5 (wI .i64 (a6+(1:Int))))
def lN (p0:eD) (p1:aL) (a6:Int) (ag5:(Int)->Option (Bool)):Option (Bool):=
 if a6<(List.length p1:Int)then(ck (0<=a6∧a6<(List.length p1:Int)) (ck (0<=a6∧a6<(List.length p0:Int)) (if(at' p1 a6)<((at' p0 a6).1)then(sA a6 ag5 (true))else(ck (0<=a6∧a6<(List.length p0:Int)) (sA a6 ag5 (decide (((at' p0 a6).2)<(at' p1 a6))))))))else(r_  (()))
def tI (U:Nat) (p0:eD) (p1:aL):Option (Bool):=
 if(List.length p1:Int)≠(List.length p0:Int)then(some (false))else(bE (lN p0 p1) U (0:Int))
theorem Up:aO Tryz.prog 132:=Tryz.call132
theorem GT (U:Nat) {p0:eD} {p1:aL} (v0:Value)  (v1:Value) (r:Bool) (h:tI U p0 p1=some r):
  aT Tryz.prog 132 #[v0,v1] [Sl aV v0 p0,Sl bD v1 p1] (fun x:Unit=>vB (r)) (fun x l=>l) (fun _ l=>l):=by
 refine aT.of Tryz.func132 rfl Tryz.ntmps132 rfl fun c=>?_
 refine sqR<|qkAsg rfl<|dtN<|aI<|sqR<|qkMove rfl<|qkLen (aC.fact 1 rfl) rfl<|qkMove rfl<|qkLen (aC.fact 0 rfl) rfl<|qkNeq rfl<|dtN ?_
 refine eB h rfl (fun h=>?_) fun h=>?_
 ·refine sqR<|qkAsg rfl<|dtN<|aP<|aH ?_
  cases h
  exact lI rfl
 refine cI<|aI<|midU (fun a2=>r_  a2=some r) (fun a2 b3=>[]) (fun a2 b3=>[]) ?_ ?_
 ·refine sqR<|qkMove rfl<|qkLen (aC.fact 1 rfl) rfl<|qkMove rfl<|dtN<|aN<|loopL (lN p0 p1) (fun a6 b7=>[(0,v0),(12,v1),(13,vI (List.length p1:Int)),(14,vI (a6))]) (fun a6 b7=>[]) (0:Int) () h SF (aQ.refl _) ?_
  intro k8 a6 b7 h
  refine sqR<|qkLss rfl<|dtN<|aI ?_
  refine eB h rfl (fun h=>?_) fun h=>?_
  ·refine cI<|aI<|aN<|sqR<|qkMove rfl<|ckE h fun j10 h=>aB (aY rfl rfl (aC.fact 1 rfl) rfl rfl j10) rfl<|aB (bT rfl (aC.fact 1 rfl) rfl rfl rfl dO j10) rfl<|qkAsg rfl<|qkAsg rfl<|dtN<|aI<|midU (fun a12=>sA a6 (bE (lN p0 p1) k8) a12=some r) (fun a12 b13=>[(0,v0),(12,v1),(13,vI (List.length p1:Int)),(14,vI (a6)),(34,vB (a12))]) (fun a12 b13=>[]) ?_ ?_
   ·refine aM<|qkMove rfl<|qkMove rfl<|qkMove rfl<|ckE h fun j15 h=>aB (aY rfl rfl (aC.fact 0 rfl) rfl rfl j15) rfl ?_
    refine aB (Bh (i:=0) rfl rfl rfl rfl rfl (by decide)) rfl ?_
    refine aB (pA rfl (aC.fact 0 rfl) rfl rfl rfl zB j15) rfl<|qkLss rfl<|qkMove rfl ?_
    refine Cv h rfl (fun _ h=>?_) fun _ h=>?_
    ·refine gdSkip rfl<|gdSkip rfl<|gdSkip rfl<|gdSkip rfl<|gdSkip rfl<|gdSkip rfl<|gdSkip rfl<|qkPkT rfl<|dtN ?_
     exact jV (true) () h SF rfl
    refine gyMove rfl<|gyMove rfl<|gyMove rfl<|ckE h fun j17 h=>aR rfl (aY rfl rfl (aC.fact 0 rfl) rfl rfl j17) rfl ?_
    refine aR rfl (Bh (i:=1) rfl rfl rfl rfl rfl (by decide)) rfl ?_
    refine aR rfl (pA rfl (aC.fact 0 rfl) rfl rfl rfl LZ j17) rfl<|aR rfl (uX rfl rfl) rfl<|qkPkF rfl<|dtN ?_
    exact jV (decide (((at' p0 a6).2)<(at' p1 a6))) () h SF rfl
   intro a12 b13 h
   refine As h rfl (fun _ h=>?_) fun _ h=>?_
   ·refine sqR<|qkAsg rfl<|dtN<|aP<|bK<|aH<|aH<|bK<|aH ?_
    cases h
    exact lI rfl
   refine cU<|inT<|aM<|qkAdd rfl<|qkMove rfl<|dtN ?_
   exact yF (wI .i64 (a6+(1:Int))) () h SF rfl
  refine vT ?_
  exact jV () (()) h SF rfl
 intro a2 b3 h
 unfold r_ at h
 refine sqR<|qkAsg rfl<|dtN<|aP ?_
 cases h
 exact lI rfl
end
section
def qJ  (a2:Unit):Option (Bool):=
 some (true)
def nO (U:Nat) (p0:eF) (p1:aX) (a6:Int) (ag5:(Int)->Option (Bool)):Option (Bool):=
 if a6<(List.length p0:Int)then(ck (0<=a6∧a6<(List.length p0:Int)) (ck (0<=a6∧a6<(List.length p1:Int)) (Option.bind (tI U (at' p0 a6) (at' p1 a6)) fun r12=>(if(!r12)=true then(some (false))else(ag5 (wI .i64 (a6+(1:Int))))))))else(qJ  (()))
def rZ (U:Nat) (p0:eF) (p1:aX):Option (Bool):=
 if(List.length p1:Int)≠(List.length p0:Int)then(some (false))else(bE (nO U p0 p1) U (0:Int))
theorem Ui:aO Tryz.prog 109:=Tryz.call109
theorem ES (U:Nat) {p0:eF} {p1:aX} (v0:Value)  (z1:mB)  (v2:Value)  (z3:pJ) (r:Bool) (h:rZ U p0 p1=some r):
  aT Tryz.prog 109 #[v0,v2] [S2 aV v0 z1 p0,S2 bD v2 z3 p1] (fun x:Unit=>vB (r)) (fun x l=>l) (fun _ l=>l):=by
 refine aT.of Tryz.func109 rfl Tryz.ntmps109 rfl fun c=>?_
 refine sqR<|qkAsg rfl<|dtN<|aI<|sqR<|qkMove rfl<|aB (iM rfl (aC.fact 1 rfl) rfl) rfl<|qkMove rfl<|aB (iM rfl (aC.fact 0 rfl) rfl) rfl<|qkNeq rfl<|dtN ?_
 refine eB h rfl (fun h=>?_) fun h=>?_
 ·refine sqR<|qkAsg rfl<|dtN<|aP<|aH ?_
  cases h
  exact lI rfl
 refine cI<|aI<|midU (fun a2=>qJ  a2=some r) (fun a2 b3=>[]) (fun a2 b3=>[]) ?_ ?_
 ·refine sqR<|qkMove rfl<|aB (iM rfl (aC.fact 0 rfl) rfl) rfl<|qkMove rfl<|dtN<|aN<|loopL (nO U p0 p1) (fun a6 b7=>[(1,v2),(12,v0),(13,vI (List.length p0:Int)),(14,vI (a6))]) (fun a6 b7=>[]) (0:Int) () h SF (aQ.refl _) ?_
  intro k8 a6 b7 h
  refine sqR<|qkLss rfl<|dtN<|aI ?_
  refine eB h rfl (fun h=>?_) fun h=>?_
  ·refine cI<|aI<|aN<|sqR<|qkMove rfl<|ckE h fun j10 h=>aB (cK rfl rfl (aC.fact 0 rfl) rfl rfl j10) rfl<|aB (cJ rfl (aC.fact 0 rfl) rfl rfl j10) rfl<|qkAsg rfl<|qkAsg rfl<|dtN<|sqR<|qkMove rfl<|qkMove rfl<|qkMove rfl<|ckE h fun j11 h=>aB (cK rfl rfl (aC.fact 1 rfl) rfl rfl j11) rfl<|aB (cJ rfl (aC.fact 1 rfl) rfl rfl j11) rfl<|bnE h fun r12 w13 h=>aF (aJ.callQ Up (GT U ((at' z1 a6).1) ((at' z3 a6).1) r12 w13) rfl (aD.cons (aC.el (aC.fact 0 rfl) j10.1 j10.2) (aD.cons (aC.el (aC.fact 1 rfl) j11.1 j11.2) .nil))) rfl fun x14=>aB (qL rfl) rfl<|dtN ?_
   refine As h rfl (fun _ h=>?_) fun _ h=>?_
   ·refine sqR<|qkAsg rfl<|dtN<|aP<|bK<|aH<|aH<|bK<|aH ?_
    cases h
    exact lI rfl
   refine cU<|inT<|aM<|qkAdd rfl<|qkMove rfl<|dtN ?_
   exact yF (wI .i64 (a6+(1:Int))) () h SF rfl
  refine vT ?_
  exact jV () (()) h SF rfl
 intro a2 b3 h
 unfold qJ at h
 refine sqR<|qkAsg rfl<|dtN<|aP ?_
 cases h
 exact lI rfl
end
section
def kY (U:Nat) (p0:rO) (p1:cM) (p2:aX):Option (Int):=
 Option.bind (rC U ((p0.1,p0.2.1,p0.2.2)) ((p1.1,p1.2))) fun r3=>(if r3≠(0:Int)then(some (r3))else(Option.bind (gT U ((p0.1,p0.2.1,p0.2.2)) ((p1.1,p1.2))) fun r7=>(Option.bind (rZ U r7 p2) fun r10=>(if(!r10)=true then(some (10:Int))else(some (0:Int))))))
theorem QZ:aO Tryz.prog 78:=Tryz.call78
theorem AZ (U:Nat) {p0:rO} {p1:cM} {p2:aX} (v0:Value)  (v1:Value)  (v2:Value)  (v3:Value)  (z4:mB)  (v5:Value)  (z6:pJ) (r:Int) (h:kY U p0 p1 p2=some r):
  aT Tryz.prog 78 #[Value.agg #[vS (p0.1),v0,v1],Value.agg #[v2,v3],v5] [Sl aG v0 p0.2.1,Sl aE v1 p0.2.2,PF (Value.agg #[vS p0.1,v0,v1]),Sl bD v2 p1.1,S2 aV v3 z4 p1.2,S2 bD v5 z6 p2] (fun x:Unit=>vI (r)) (fun x l=>l) (fun _ l=>l):=by
 refine aT.of Tryz.func78 rfl Tryz.ntmps78 rfl fun c=>?_
 refine sqR<|aF (aJ.box (cs:=[vS (p0.1),v0,v1]) rfl rfl) rfl fun b1=>aF (aJ.box (cs:=[v2,v3]) rfl rfl) rfl fun b2=>qkAsg rfl<|dtN<|aI<|sqR<|qkLdA 1 rfl<|qkLdA 0 rfl<|bnE h fun r3 w4 h=>aF (aJ.callQ Uh (Hp U v0 v1 v2 v3 z4 r3 w4) rfl (oI [0,1,2,3,4] rfl)) rfl fun x5=>qkAsg rfl<|dtN<|sqR<|qkMove rfl<|qkNeq rfl<|dtN ?_
 refine eB h rfl (fun h=>?_) fun h=>?_
 ·refine sqR<|qkMove rfl<|qkAsg rfl<|dtN<|aP<|aH ?_
  cases h
  exact tV rfl
 refine cI<|aI<|sqR<|qkLdA 1 rfl<|qkLdA 0 rfl<|bnE h fun r7 w8 h=>aF (aJ.callQ Mm (w_ U v0 v1 v2 v3 z4 r7 w8) rfl (oI [0,1,2,3,4] rfl)) rfl fun x9=>qkMove rfl<|bnE h fun r10 w11 h=>aF (aJ.callQ Ui (ES U x9.1 (List.zip x9.2 r7) v5 z6 r10 w11) rfl (aD.cons (bF (i:=0) (j:=1) rfl rfl bJ) (oI [5] rfl))) rfl fun x12=>aB (qL rfl) rfl<|dtN ?_
 refine As h rfl (fun _ h=>?_) fun _ h=>?_
 ·refine sqR<|qkAsg rfl<|dtN<|aP<|aH ?_
  cases h
  exact tV rfl
 refine cI<|sqR<|qkAsg rfl<|dtN<|aP ?_
 cases h
 exact tV rfl
end
section
def tK  (a5:aX):Option aX:=
 some (a5)
def pZ (p0:aX) (a11:Int×aX) (ag10:(Int×aX)->Option aX):Option aX:=
 if a11.1<(List.length p0:Int)then(ck (0<=a11.1∧a11.1<(List.length p0:Int)) (ck ((List.length ([]:aL):Int)+(List.length (at' p0 a11.1):Int)<=1099511627) (ck (0<=a11.1∧a11.1<(List.length a11.2:Int)) (ag10 ((wI .i64 (a11.1+(1:Int))),(List.set a11.2 (Int.toNat a11.1) (([]:aL)++(at' p0 a11.1))))))))else(tK  (a11.2))
def rD (U:Nat) (p0:aX):Option aX:=
 ck (0<=(List.length p0:Int)∧(List.length p0:Int)<=1099511627) (bE (pZ p0) U ((0:Int),(List.replicate (Int.toNat (List.length p0:Int)) ([]:aL))))
theorem Nt:aO Tryz.prog 110:=Tryz.call110
theorem BV (U:Nat) {p0:aX} (v0:Value)  (z1:pJ) (r:aX) (h:rD U p0=some r):
  aT Tryz.prog 110 #[v0] [S2 bD v0 z1 p0] (fun x:Value×List Value=>x.1) (fun x l=>Ar cZ.raw x.1 x.2::jK bU x.2 r::l) (fun _ l=>l):=by
 refine aT.of Tryz.func110 rfl Tryz.ntmps110 rfl fun c=>?_
 refine sqR<|qkAsg rfl<|dtN<|sqR<|qkMove rfl<|aB (iM rfl (aC.fact 0 rfl) rfl) rfl<|ckE h fun j1 h=>jN (sN bU (Int.toNat (List.length p0:Int)))<|aF (nT (e:=cZ.raw) (kK) rfl rfl rfl rfl j1 rfl rfl rfl) rfl fun u2=>qkAsg rfl<|dtN<|aI<|midL (B:=fJ) (fun a5=>tK  a5=some r) (fun a5 b6=>[(3,u2)]) (fun a5 b6=>[Ar cZ.raw u2 b6,jK bU b6 a5]) ?_ ?_
 ·refine sqR<|qkMove rfl<|aB (iM rfl (aC.fact 0 rfl) rfl) rfl<|qkMove rfl<|dtN<|aN<|loopL (B:=fJ) (pZ p0) (fun a11 b12=>[(3,u2),(9,v0),(10,vI (List.length p0:Int)),(11,vI (a11.1))]) (fun a11 b12=>[Ar cZ.raw u2 b12,jK bU b12 a11.2]) ((0:Int),(List.replicate (Int.toNat (List.length p0:Int)) ([]:aL))) (List.replicate (Int.toNat (List.length p0:Int)) (kK)) h SF (aQ.refl _) ?_
  intro k13 a11 b12 h
  refine sqR<|qkLss rfl<|dtN<|aI ?_
  refine eB h rfl (fun h=>?_) fun h=>?_
  ·refine cI<|aI<|aN<|sqR<|qkMove rfl<|ckE h fun j15 h=>aB (cK rfl rfl (aC.fact 0 rfl) rfl rfl j15) rfl<|aB (cJ rfl (aC.fact 0 rfl) rfl rfl j15) rfl<|qkAsg rfl<|qkAsg rfl<|dtN<|aM<|qkMove rfl<|qkMove rfl<|qkMove rfl<|jN (iL bU)<|ckE h fun j17 h=>aF (fT 0 cP rfl rfl rfl (aC.el (aC.fact 0 rfl) j15.1 j15.2) rfl rfl rfl rfl j17 rfl) rfl fun u16=>ckE h fun j18 h=>aB (cK rfl rfl (bF (i:=1) (j:=2) rfl rfl cP) rfl rfl j18) rfl<|bQ (Know.one ((aU (aC.res 0 rfl) cP))) fun ho19=>jN (tZ (k:=a11.1) 2 0 rfl rfl rfl j18) ?_
   refine mD 0 1 ⟨j18.1,by first|exact j18.2|simpa using j18.2⟩ rfl rfl rfl rfl rfl (by simp) ho19 rfl ?_
   refine dY<|inT<|aM<|qkAdd rfl<|qkMove rfl<|dtN ?_
   exact yF ((wI .i64 (a11.1+(1:Int))),(List.set a11.2 (Int.toNat a11.1) (([]:aL)++(at' p0 a11.1)))) (List.set b12 (Int.toNat a11.1) u16) h SF rfl
  refine vT ?_
  exact jV (a11.2) (b12) h SF rfl
 intro a5 b6 h
 unfold tK at h
 refine sqR<|qkMove rfl<|qkAsg rfl<|dtN<|aP ?_
 cases h
 exact fS (u2,b6) rfl rfl (RV.tmp rfl) (aQ.refl _) aD.nil
end
end Go.Proofs.YtigggfnchamobaaGreatDoor
end
section
namespace Go.Proofs.YtigggfnchamobaaGreatDoor
open Go Go.Sx
section
abbrev BC:=ByteArray×(List Fa)×(List uW)
structure zE (g:GR) (vars:List Fa):Prop where
 len:vars.length<=20
 small:∀x,x<vars.length->AD (at' vars (x:Int))
 kind:∀x,x<vars.length->(at' vars (x:Int)).2.1=1∨(at' vars (x:Int)).2.1=2∨(at' vars (x:Int)).2.1=3
 range:∀x,x<vars.length->(at' vars (x:Int)).2.1=1 -> -100000<=lo g (at' vars (x:Int)) 0∧lo g (at' vars (x:Int)) 0<=hi g (at' vars (x:Int)) 0∧hi g (at' vars (x:Int)) 0 - lo g (at' vars (x:Int)) 0+1<=4096
theorem XQ {g:GR} (hV:VG g):wF 1000 g.1=some (gJ g g.1.length):=by
 have h24:=hV.n24
 have hlen:=hV.len
 have h1:=hV.n1
 have hid:0<=at' g.1 ((0:Nat):Int):=(hV.node 0 (by omega)).id.1
 unfold wF
 rw[if_neg (by omega),cL (by omega)]
 have:=dR (step:=rH g.1) (K:=some (gJ g g.1.length)) (g.1.length - 1) (fun k=>(gJ g (k+1),((k+1:Nat):Int))) (fun k ag hk=>by
  unfold rH
  dsimp only
  rw[if_pos (by omega),cL (by omega),dU (by omega)];rfl) (fun ag=>by
  unfold rH uO
  dsimp only
  rw[if_neg (by omega),show g.1.length - 1+1=g.1.length by omega]) 1000 (by omega)
 have e:gJ g (0+1)=at' g.1 (0:Int):=by
  show max (gJ g 0) (at' g.1 ((0:Nat):Int))=_
  simp only[gJ]
  have:at' g.1 ((0:Nat):Int)=at' g.1 (0:Int):=rfl
  omega
 rw[e]at this
 exact this
theorem HG {g:GR} (hV:VG g) {x:Fa} (hs:AD x) (hk:x.2.1=1∨x.2.1=2∨x.2.1=3) {v:Nat} (hv:v<g.2.length):g_ 1000 x g (v:Int)=some (lo g x v,hi g x v):=by
 obtain⟨⟨s1,s2⟩,⟨s3,s4⟩,s5,s6⟩:=hs
 have h24:=hV.n24
 have hlen:=hV.len
 have hm:=Gu hV g.1.length (by omega)
 have p1:0<=x.2.2.2.2.1*(g.1.length:Int):=Int.mul_nonneg s3 (by omega)
 have p2:x.2.2.2.2.1*(g.1.length:Int)<=100000*24:=Int.mul_le_mul s4 (by omega) (by omega) (by omega)
 have p3:0<=x.2.2.2.2.2*gJ g g.1.length:=Int.mul_nonneg s5 hm.1
 have p4:x.2.2.2.2.2*gJ g g.1.length<=100000*255:=Int.mul_le_mul s6 hm.2 hm.1 (by omega)
 have b1:lY 1000 x g (v:Int)=some (x.2.2.1,x.2.2.2.1+x.2.2.2.2.1*(g.2.length:Int)+x.2.2.2.2.2*gJ g g.1.length):=by
  unfold lY
  rw[bB (XQ hV),wr (x:=x.2.2.2.2.1*_) (by omega) (by omega),wr (x:=x.2.2.2.2.2*_) (by omega) (by omega),wr (x:=x.2.2.2.1+_) (by omega) (by omega),wr (by omega) (by omega),hlen]
 have b3:lZ 1000 x g (v:Int)=some (-1,((row g v).length:Int) - 1):=by
  have hdeg:=(hV.node v hv).deg
  unfold lZ
  rw[cL (by omega)]
  show some ((-1:Int),wI .i64 (((row g v).length:Int) - 1))=_
  rw[wr (by omega) (by omega)]
 have it:∀(f:Nat) (a:Int),bE (dG 1000 x g (v:Int)) (f+1) a=dG 1000 x g (v:Int) a (bE (dG 1000 x g (v:Int)) f):=fun f a=>rfl
 have st:∀(f:Nat) (a:Int),a=0∨a=1∨a=2->bE (dG 1000 x g (v:Int)) (f+1) a=if a=0 then(if 1=x.2.1 then lY 1000 x g (v:Int)else bE (dG 1000 x g (v:Int)) f 1)else if a=1 then(if 2=x.2.1 then pH 1000 x g (v:Int)else bE (dG 1000 x g (v:Int)) f 2)else(if 3=x.2.1 then lZ 1000 x g (v:Int)else bE (dG 1000 x g (v:Int)) f 3):=by
  intro f a ha
  rw[it]
  generalize bE (dG 1000 x g (v:Int)) f=G
  unfold dG kH
  rcases ha with rfl|rfl|rfl
  ·rw[if_pos (by decide),cL (by decide),if_pos rfl,if_pos rfl]
   split
   ·rw[b1];rfl
   ·rfl
  ·rw[if_pos (by decide),cL (by decide),if_neg (show¬(1:Int)=0 by decide),if_pos rfl,if_neg (show¬(1:Int)=0 by decide),if_pos rfl]
   split
   ·rfl
   ·rfl
  ·rw[if_pos (by decide),cL (by decide),if_neg (show¬(2:Int)=0 by decide),if_neg (show¬(2:Int)=1 by decide),if_neg (show¬(2:Int)=0 by decide),if_neg (show¬(2:Int)=1 by decide)]
   split
   ·rw[b3];rfl
   ·rfl
 unfold g_ lo hi
 rcases hk with h|h|h
 ·rw[st 999 0 (.inl rfl),if_pos rfl,if_pos h.symm,b1,h,if_neg (by decide),if_neg (by decide),if_neg (by decide),if_neg (by decide)]
 ·rw[st 999 0 (.inl rfl),if_pos rfl,if_neg (by omega),st 998 1 (.inr (.inl rfl)),if_neg (by decide),if_pos rfl,if_pos h.symm,h,if_pos rfl,if_pos rfl];rfl
 ·rw[st 999 0 (.inl rfl),if_pos rfl,if_neg (by omega),st 998 1 (.inr (.inl rfl)),if_neg (by decide),if_pos rfl,if_neg (by omega),st 997 2 (.inr (.inr rfl)),if_neg (by decide),if_neg (by decide),if_pos h.symm,b3,h,if_neg (by decide),if_pos rfl,if_neg (by decide),if_pos rfl]

def wL (g:GR) (vars:List Fa) (v x:Nat):eZ:=(lo g (at' vars (x:Int)) v,hi g (at' vars (x:Int)) v)
def BG (g:GR) (vars:List Fa) (v:Nat):eD:=(List.range vars.length).map (wL g vars v)
def yD (g:GR) (vars:List Fa):eF:=(List.range g.2.length).map (BG g vars)
theorem AQ {α:Type} [Inhabited α] (f:Nat->α) {n k:Nat} (h:k<n):at' ((List.range n).map f) (k:Int)=f k:=by
 rw[kD (by simpa using h)];simp
theorem rE {α:Type} (f:Nat->α) (z:α) (n k:Nat) (h:k<n):((List.range k).map f++List.replicate (n - k) z).set k (f k)=(List.range (k+1)).map f++List.replicate (n - (k+1)) z:=by
 rw[show n - k=(n - (k+1))+1 by omega,List.replicate_succ,List.set_append_right _ _ (by simp),List.range_succ]
 simp
theorem Ha {g:GR} (hV:VG g) {p:BC} (hp:zE g p.2.1):gT 1000 p g=some (yD g p.2.1):=by
 have h24:=hV.n24
 have hlen:=hV.len
 have hvl:=hp.len
 let vars:=p.2.1
 let Q:Nat->eF:=fun k=>(List.range k).map (BG g vars)++List.replicate (g.2.length - k) []
 have hQl:∀k,k<=g.2.length->(Q k).length=g.2.length:=fun k hk=>by simp[Q];omega
 let R:Nat->Nat->eD:=fun k j=>(List.range j).map (wL g vars k)++List.replicate (vars.length - j) (0,0)
 have hRl:∀k j,j<=vars.length->(R k j).length=vars.length:=fun k j hj=>by simp[R];omega
 unfold gT
 rw[cL (by omega)]
 rw[show List.replicate (Int.toNat (g.1.length:Int)) ([]:eD)=Q 0 by simp[Q,hlen]]
 refine dR (step:=jU 1000 p g) (K:=some (yD g vars)) g.2.length (fun k=>((k:Int),Q k)) (fun k ag hk=> ?_) (fun ag=> ?_) 1000 (by omega)
 ·unfold jU
  dsimp only
  rw[if_pos (by simp;omega),cL (by omega),cL (by rw[hQl k (by omega)];omega)]
  refine Eq.trans (?_:_=bE (lL 1000 p g ((k:Int),Q k) ag) 1000 ((0:Int),(Q k).set k (R k 0))) ?_
  ·rw[Int.toNat_natCast,Int.toNat_natCast];simp[R,vars]
  refine dR (step:=lL 1000 p g ((k:Int),Q k) ag) (K:=ag (((k+1:Nat):Int),Q (k+1))) vars.length (fun j=>((j:Int),(Q k).set k (R k j))) (fun j ag2 hj=> ?_) (fun ag2=> ?_) 1000 (by show p.2.1.length<1000;omega)
  ·have hj':j<p.2.1.length:=hj
   have hb:=HG hV (hp.small j hj) (hp.kind j hj) hk
   have hq:k<(Q k).length:=by rw[hQl k (by omega)];exact hk
   have a1:∀X:eD,at' ((Q k).set k X) (k:Int)=X:=fun X=>by rw[wK _ _ _ _ hq,if_pos rfl]
   have hRj:j<(R k j).length:=by rw[hRl k j (by omega)];exact hj
   unfold lL
   dsimp only
   rw[if_pos (by omega),cL (by omega),cL (by simp only[List.length_set];omega),cL (by simp only[List.length_set];omega),bB (show g_ 1000 _ g (k:Int)=_ from hb),Int.toNat_natCast,Int.toNat_natCast]
   simp only[a1,List.set_set]
   rw[cL (by omega),cL (by simp only[List.length_set];omega),dU (by omega)]
   have:(R k j).set j (lo g (at' p.2.1 (j:Int)) k,hi g (at' p.2.1 (j:Int)) k)=R k (j+1):=rE (wL g vars k) (0,0) vars.length j hj
   rw[wK _ _ _ _ hRj,if_pos rfl]
   dsimp only
   rw[this]
  ·unfold lL rT
   dsimp only
   rw[if_neg (show¬((vars.length:Nat):Int)<(p.2.1.length:Int)from Int.lt_irrefl _),dU (by omega)]
   have e1:R k vars.length=BG g vars k:=by simp[R,BG]
   have e2:(Q k).set k (BG g vars k)=Q (k+1):=rE (BG g vars) [] g.2.length k hk
   rw[e1,e2]
 ·unfold jU rS
  dsimp only
  rw[if_neg (by simp;omega)]
  simp[Q,yD]
theorem UV {g:GR} (hV:VG g) {p:BC} (hp:zE g p.2.1):rC 1000 p g=some 0:=by
 have h1:=hV.n1
 have hvl:=hp.len
 unfold rC
 rw[bB (show yB 1000 _=some true from rfl),if_neg (by decide),bB (show fC 1000 g=some true from(BA g).1 hV),if_neg (by decide)]
 refine dR (step:=kQ 1000 p g) (K:=some 0) p.2.1.length (fun k=>(k:Int)) (fun k ag hk=> ?_) (fun ag=> ?_) 1000 (by omega)
 ·unfold kQ nD tB nD
  rw[if_pos (by omega),cL (by omega),dU (by omega)]
  by_cases hk1:(at' p.2.1 (k:Int)).2.1=1
  ·obtain⟨r1,r2,r3⟩:=hp.range k hk hk1
   have hb:=HG hV (hp.small k hk) (hp.kind k hk) (v:=0) (by omega)
   rw[if_neg (by simpa using hk1),bB (show g_ 1000 _ g (0:Int)=_ from hb)]
   dsimp only
   rw[if_neg (by omega),wr (x:=hi g (at' p.2.1 (k:Int)) 0 - lo g (at' p.2.1 (k:Int)) 0) (by omega) (by omega),wr (by omega) (by omega),if_neg (by rw[decide_eq_true_eq];omega)]
  ·rw[if_pos hk1]
 ·unfold kQ tA
  rw[if_neg (by omega)]

theorem Ta {g:GR} {vars:List Fa} (hl:vars.length<=20) {v:Nat} {l:aL} (h1:l.length=vars.length) (h2:∀x,x<vars.length->lo g (at' vars (x:Int)) v<=at' l (x:Int)∧at' l (x:Int)<=hi g (at' vars (x:Int)) v):tI 1000 (BG g vars v) l=some true:=by
 have hr:(BG g vars v).length=vars.length:=by simp[BG]
 unfold tI
 rw[if_neg (by rw[hr,h1];simp)]
 refine dR (step:=lN (BG g vars v) l) (K:=some true) l.length (fun k=>(k:Int)) (fun k ag hk=> ?_) (fun ag=> ?_) 1000 (by omega)
 ·have hc:at' (BG g vars v) (k:Int)=wL g vars v k:=AQ _ (by omega)
  have:=h2 k (by omega)
  unfold lN sA
  rw[if_pos (by omega),cL (by omega),cL (by omega),hc]
  rw[if_neg (show¬at' l (k:Int)<(wL g vars v k).1 from Int.not_lt.2 this.1),cL (by omega),if_neg (by rw[decide_eq_true_eq];exact Int.not_lt.2 this.2),dU (by omega)]
 ·unfold lN r_
  rw[if_neg (by omega)]
theorem Kw {g:GR} (hV:VG g) {p:BC} (hp:zE g p.2.1) {c:aX} (hc:JG g c p.2.1):kY 1000 p g c=some 0:=by
 have h24:=hV.n24
 have ht:(yD g p.2.1).length=g.2.length:=by simp[yD]
 have hcl:=hc.len
 unfold kY
 rw[bB (show rC 1000 _ _=some 0 from UV hV hp),if_neg (by decide),bB (show gT 1000 _ _=_ from Ha hV hp)]
 have:rZ 1000 (yD g p.2.1) c=some true:=by
  unfold rZ
  rw[if_neg (by rw[ht,hcl];simp)]
  refine dR (step:=nO 1000 (yD g p.2.1) c) (K:=some true) g.2.length (fun k=>(k:Int)) (fun k ag hk=> ?_) (fun ag=> ?_) 1000 (by omega)
  ·have hr:at' (yD g p.2.1) (k:Int)=BG g p.2.1 k:=AQ _ hk
   unfold nO
   rw[if_pos (by omega),cL (by omega),cL (by omega),hr,bB (Ta hp.len (hc.row k hk) (hc.ok k hk)),if_neg (by decide),dU (by omega)]
  ·unfold nO qJ
   rw[if_neg (by omega)]
 rw[bB this,if_neg (by decide)]
theorem NG (c:aX) (h:c.length<=900) (hr:∀v,v<c.length->(at' c (v:Int)).length<=1000):rD 1000 c=some c:=by
 unfold rD
 rw[cL (by omega)]
 let Q:Nat->aX:=fun k=>(List.range k).map (fun v:Nat=>at' c (v:Int))++List.replicate (c.length - k) []
 rw[show List.replicate (Int.toNat (c.length:Int)) ([]:aL)=Q 0 by simp[Q]]
 refine dR (step:=pZ c) (K:=some c) c.length (fun k=>((k:Int),Q k)) (fun k ag hk=> ?_) (fun ag=> ?_) 1000 (by omega)
 ·have hQ:(Q k).length=c.length:=by simp[Q];omega
  have:=hr k hk
  unfold pZ
  dsimp only
  rw[if_pos (by omega),cL (by omega),cL (by simp;omega),cL (by omega),dU (by omega),Int.toNat_natCast,List.nil_append]
  have:(Q k).set k (at' c (k:Int))=Q (k+1):=rE (fun v:Nat=>at' c (v:Int)) [] c.length k hk
  rw[this]
 ·unfold pZ tK
  dsimp only
  rw[if_neg (by omega)]
  congr 1
  refine List.ext_getElem (by simp[Q]) fun i h1 h2=> ?_
  simp[Q,kD h2]
end
section
def VE (x:Int):Int:=max (-1073741824) (min x 1073741824)
def unD (o x:Int):Int:=if o=18 then wI .i64 (0 - x)else DO (decide (x=0))
def Vw (a b:Int):Int:=if b=0 then 0 else if Int.tmod a b≠0∧((decide (a<0)) != (decide (b<0)))=true then wI .i64 (wI .i64 (Int.tdiv a b) - 1)else wI .i64 (Int.tdiv a b)
def Xm (o x y:Int):Bool:=if o=35 then decide (x=y)else if o=36 then decide (x≠y)else if o=37 then decide (x<y)else if o=38 then decide (x<=y)else if o=39 then decide (y<x)else decide (y<=x)
def biD (o x y:Int):Int:=
 if o=30 then VE (wI .i64 (x*y))else if o=31 then VE (Vw x y)else if o=32 then(if y=0 then 0 else VE (wI .i64 (x - wI .i64 (y*Vw x y))))else if o=33 then VE (wI .i64 (x+y))else if o=34 then VE (wI .i64 (x - y))
 else if o=41 then DO (decide (x≠0)&&decide (y≠0))else if o=42 then DO (decide (x≠0)||decide (y≠0))else DO (Xm o x y)
theorem Td (f:Nat) (o x:Int):wE f o x=some (unD o x):=by
 unfold wE unD
 split
 ·rfl
 ·rw[bB (rM f _)]
theorem SN (f:Nat) (a b:Int):oL f a b=some (Vw a b):=by
 unfold oL Vw
 by_cases hb:b=0
 ·rw[if_pos hb,if_pos hb]
 ·rw[if_neg hb,if_neg hb,cL hb,cL hb]
  by_cases h1:Int.tmod a b=0
  ·rw[if_neg (by simpa using h1),if_neg (by simp[h1])];rfl
  ·rw[if_pos h1]
   unfold qH nG
   by_cases h2:((decide (a<0)) != (decide (b<0)))=true
   ·rw[if_pos h2,if_pos ⟨h1,h2⟩]
   ·rw[if_neg h2,if_neg (fun q=>h2 q.2)]
theorem Xn (f:Nat) (o x y:Int):rY f o x y=some (Xm o x y):=by
 unfold rY Xm
 repeat' split
 all_goals rfl
theorem OZ (f:Nat) (o x y:Int):uN f o x y=some (biD o x y):=by
 unfold uN biD
 by_cases h:o=30
 ·rw[if_pos h,if_pos h];rfl
 rw[if_neg h,if_neg h]
 by_cases h:o=31
 ·rw[if_pos h,if_pos h,bB (SN f x y)];rfl
 rw[if_neg h,if_neg h]
 by_cases h:o=32
 ·rw[if_pos h,if_pos h]
  by_cases hy:y=0
  ·rw[if_pos hy,if_pos hy]
  ·rw[if_neg hy,if_neg hy,bB (SN f x y)];rfl
 rw[if_neg h,if_neg h]
 by_cases h:o=33
 ·rw[if_pos h,if_pos h];rfl
 rw[if_neg h,if_neg h]
 by_cases h:o=34
 ·rw[if_pos h,if_pos h];rfl
 rw[if_neg h,if_neg h]
 by_cases h:o=41
 ·rw[if_pos h,if_pos h]
  by_cases hx:x=0
  ·rw[if_neg (by simpa using hx),bB (rM f _)];simp[hx,nE]
  ·rw[if_pos hx,bB (rM f _)];simp[hx,nE]
 rw[if_neg h,if_neg h]
 by_cases h:o=42
 ·rw[if_pos h,if_pos h]
  by_cases hx:x=0
  ·rw[if_neg (by simpa using hx),bB (rM f _)];simp[hx,nF]
  ·rw[if_pos hx,bB (rM f _)];simp[hx,nF]
 rw[if_neg h,if_neg h,bB (Xn f o x y),bB (rM f _)]
def E.den (L:Int->Int->Int->Int) (deg:Nat):E->Int->Int
 |lf o a,p=>L o a p
 |un o x,p=>unD o (x.den L deg p)
 |ag o x,_=>NM o ((List.range deg).map fun q=>x.den L deg ((q:Nat):Int))
 |bi o x y,p=>biD o (x.den L deg p) (y.den L deg p)
 |ite x y z,p=>if x.den L deg p≠0 then y.den L deg p else z.den L deg p
def E.wf (nv:Nat):Bool->E->Bool
 |b,lf o a=>decide (1<=o)&&decide (o<=16)&&(b||decide (o<=10))&&((decide (o≠5)&&decide (o≠12))||(decide (0<=a)&&decide (a<(nv:Int))))
 |b,un o x=>decide (18<=o)&&decide (o<=19)&&x.wf nv b
 |_,ag o x=>(decide (o=20)||decide (o=21)||decide (o=22)||decide (o=23)||decide (o=24)||decide (o=27))&&x.wf nv true
 |b,bi o x y=>decide (30<=o)&&decide (o<=42)&&x.wf nv b&&y.wf nv b
 |b,ite x y z=>x.wf nv b&&y.wf nv b&&z.wf nv b
theorem TH {nv:Nat}:∀{e:E} {b:Bool},e.wf nv b=true->e.arOk=true:=by
 intro e
 induction e with
 |lf o a=>intro b h;simp[E.wf,E.arOk]at h ⊢;omega
 |un o x ih=>intro b h;simp[E.wf,E.arOk]at h ⊢;exact⟨h.1,ih h.2⟩
 |ag o x ih=>intro b h;simp[E.wf,E.arOk]at h ⊢;exact⟨by omega,ih h.2⟩
 |bi o x y ihx ihy=>intro b h;simp[E.wf,E.arOk]at h ⊢;exact⟨⟨h.1.1,ihx h.1.2⟩,ihy h.2⟩
 |ite x y z ihx ihy ihz=>intro b h;simp[E.wf,E.arOk]at h ⊢;exact⟨⟨ihx h.1.1,ihy h.1.2⟩,ihz h.2⟩
def Sr (W:YT) (p:Int):Int:=(at' (at' W.1.2.1.2 W.2.2.1) p).1
def Wg (W:YT) (o a p:Int):Int:=
 if o=1 then a else if o=2 then 1 else if o=3 then 0 else if o=4 then -1 else if o=5 then at' (at' W.2.1 W.2.2.1) a else if o=12 then at' (at' W.2.1 (Sr W p)) a
 else if o=6 then(W.1.2.1.1.length:Int)else if o=7 then W.1.2.2.1 else if o=8 then at' W.1.2.1.1 W.2.2.1 else if o=9 then((at' W.1.2.1.2 W.2.2.1).length:Int)else if o=10 then DO (decide (W.2.2.1=0))else if o=11 then p
 else if o=13 then at' W.1.2.1.1 (Sr W p)else if o=14 then((at' W.1.2.1.2 (Sr W p)).length:Int)else if o=15 then DO (decide (Sr W p=0))else(at' (at' W.1.2.1.2 W.2.2.1) p).2
structure WOk (W:YT) (nv n v:Nat):Prop where
 node:W.2.2.1=(v:Int)
 lt:v<n
 ports:W.1.2.1.2.length=n
 ids:W.1.2.1.1.length=n
 c:W.2.1.length=n
 row:∀u:Nat,u<n->(at' W.2.1 (u:Int)).length=nv
 to:∀u:Nat,u<n->∀i:Nat,i<(at' W.1.2.1.2 (u:Int)).length->0<=(at' (at' W.1.2.1.2 (u:Int)) (i:Int)).1∧(at' (at' W.1.2.1.2 (u:Int)) (i:Int)).1<(n:Int)
def Qz (b:Bool) (deg:Nat) (p:Int):Prop:=b=true->∃q:Nat,p=(q:Int)∧q<deg
theorem Vk {W:YT} {nv n v:Nat} (h:WOk W nv n v) (f:Nat) {b:Bool} {o a p:Int} (hw:(E.lf o a).wf nv b=true) (hp:Qz b (at' W.1.2.1.2 (v:Int)).length p):jY f W (o,a) p=some (Wg W o a p):=by
 obtain⟨hv,hlt,h1,h2,h3,h4,h5⟩:=h
 simp only[E.wf,Bool.and_eq_true,Bool.or_eq_true,decide_eq_true_eq]at hw
 obtain⟨⟨⟨w1,w2⟩,w3⟩,w4⟩:=hw
 have hvr:(at' W.2.1 (v:Int)).length=nv:=h4 v hlt
 unfold jY Wg Sr
 dsimp only
 rw[hv]
 by_cases e:o=1
 ·simp only[if_pos e]
 simp only[if_neg e]
 by_cases e:o=2
 ·simp only[if_pos e]
 simp only[if_neg e]
 by_cases e:o=3
 ·simp only[if_pos e]
 simp only[if_neg e]
 by_cases e:o=4
 ·simp only[if_pos e]
 simp only[if_neg e]
 by_cases e:o=5
 ·simp only[if_pos e]
  rw[cL (by omega),cL (by omega)]
 simp only[if_neg e]
 by_cases e:o=12
 ·have hb:b=true:=by
   rcases w3 with w3|w3
   ·exact w3
   ·omega
  obtain⟨q,rfl,hq⟩:=hp hb
  have h6:=h5 v hlt q hq
  obtain⟨u,hu⟩:∃u:Nat,(at' (at' W.1.2.1.2 (v:Int)) (q:Int)).1=(u:Int):=⟨_,(Int.toNat_of_nonneg h6.1).symm⟩
  simp only[if_pos e]
  rw[hu]at h6 ⊢
  have h7:=h4 u (by omega)
  rw[cL (by omega),cL (by omega),cL (by omega),cL (by omega)]
 simp only[if_neg e]
 unfold pT
 dsimp only
 by_cases e:o=6
 ·simp only[if_pos e];rfl
 simp only[if_neg e]
 by_cases e:o=7
 ·simp only[if_pos e];rfl
 simp only[if_neg e]
 by_cases e:o=8
 ·simp only[if_pos e]
  rw[cL (by omega)];rfl
 simp only[if_neg e]
 by_cases e:o=9
 ·simp only[if_pos e]
  rw[cL (by omega)];rfl
 simp only[if_neg e]
 by_cases e:o=10
 ·simp only[if_pos e]
  rw[bB (rM f _)];rfl
 simp only[if_neg e]
 by_cases e:o=11
 ·simp only[if_pos e];rfl
 simp only[if_neg e]
 have hb:b=true:=by
  rcases w3 with w3|w3
  ·exact w3
  ·omega
 obtain⟨q,rfl,hq⟩:=hp hb
 have h6:=h5 v hlt q hq
 rw[cL (by omega),cL (by omega)]
 by_cases e:o=13
 ·simp only[if_pos e]
  rw[cL (by omega)];rfl
 simp only[if_neg e]
 by_cases e:o=14
 ·simp only[if_pos e]
  rw[cL (by omega)];rfl
 simp only[if_neg e]
 by_cases e:o=15
 ·simp only[if_pos e]
  rw[bB (rM f _)];rfl
 simp only[if_neg e]
 by_cases e:o=16
 ·simp only[if_pos e];rfl
 omega
theorem Tw {W:YT} {nv n v:Nat} (h:WOk W nv n v) {deg:Nat} (hdeg:(at' W.1.2.1.2 (v:Int)).length=deg) (hd24:deg<=24) (hT9:W.2.2.2.length<=800):
  ∀(e:E) (b:Bool) (fuel k:Nat) (p:Int) (pre post:eD),W.2.2.2=pre++(e.ts++post)->pre.length=k->e.wf nv b=true->Qz b deg p->e.depth+850<=fuel->
   bL fuel W (k:Int) p=some (e.den (Wg W) deg p,(((k+e.ts.length:Nat)):Int)):=by
 obtain⟨hv,hlt,h1,h2,h3,h4,h5⟩:=id h
 have start:∀{t:eZ} {l pre post:eD} {k:Nat},W.2.2.2=pre++((t::l)++post)->pre.length=k->at' W.2.2.2 (k:Int)=t∧(k:Int)<(W.2.2.2.length:Int):=by
  intro t l pre post k hT hk
  refine⟨IL (rest:=l++post) (by simpa using hT) hk,?_⟩
  rw[hT];simp;omega
 intro e
 induction e with
 |lf o a=>
  intro b fuel k p pre post hT hk hw hp hf
  obtain⟨fuel,rfl⟩:∃f,fuel=f+1:=⟨fuel - 1,by omega⟩
  obtain⟨ht,hlk⟩:=start (l:=[]) hT hk
  show cB (bL fuel) fuel W (k:Int) p=_
  unfold cB
  rw[cL ⟨by omega,hlk⟩,ht]
  dsimp only
  have hw':=hw
  simp only[E.wf,Bool.and_eq_true,Bool.or_eq_true,decide_eq_true_eq]at hw'
  have hl:=Vk h fuel hw (hdeg▸hp)
  rw[if_pos (by omega),bB (show jY fuel _ (o,a) p=some (Wg W o a p)from hl),dU (by omega)]
  rfl
 |un o x ih=>
  intro b fuel k p pre post hT hk hw hp hf
  obtain⟨fuel,rfl⟩:∃f,fuel=f+1:=⟨fuel - 1,by omega⟩
  obtain⟨ht,hlk⟩:=start (l:=x.ts) hT hk
  show cB (bL fuel) fuel W (k:Int) p=_
  unfold cB
  rw[cL ⟨by omega,hlk⟩,ht]
  dsimp only
  simp only[E.wf,Bool.and_eq_true,decide_eq_true_eq]at hw
  simp only[E.depth]at hf
  have hx:=ih b fuel (k+1) p (pre++[(o,0)]) post (by rw[hT];simp[E.ts]) (by simp[hk]) hw.2 hp (by omega)
  rw[if_neg (by omega),if_pos (by omega),dU (by omega),bB (show bL fuel _ _ p=_ from hx),bB (Td fuel _ _)]
  simp only[E.den,E.ts,List.length_cons]
  rw[show k+1+x.ts.length=k+(x.ts.length+1) by omega]
 |bi o x y ihx ihy=>
  intro b fuel k p pre post hT hk hw hp hf
  obtain⟨fuel,rfl⟩:∃f,fuel=f+1:=⟨fuel - 1,by omega⟩
  obtain⟨ht,hlk⟩:=start (l:=x.ts++y.ts) hT hk
  show cB (bL fuel) fuel W (k:Int) p=_
  unfold cB
  rw[cL ⟨by omega,hlk⟩,ht]
  dsimp only
  simp only[E.wf,Bool.and_eq_true,decide_eq_true_eq]at hw
  simp only[E.depth]at hf
  have hx:=ihx b fuel (k+1) p (pre++[(o,0)]) (y.ts++post) (by rw[hT];simp[E.ts]) (by simp[hk]) hw.1.2 hp (by omega)
  have hy:=ihy b fuel (k+1+x.ts.length) p (pre++(o,0)::x.ts) post (by rw[hT];simp[E.ts]) (by simp[hk];omega) hw.2 hp (by omega)
  rw[if_neg (by omega),if_neg (by omega),if_neg (by omega),if_pos (by omega),dU (by omega),bB (show bL fuel _ _ p=_ from hx),bB (show bL fuel _ _ p=_ from hy),bB (OZ fuel _ _ _)]
  simp only[E.den,E.ts,List.length_cons,List.length_append]
  rw[show k+1+x.ts.length+y.ts.length=k+(x.ts.length+y.ts.length+1) by omega]
 |ite x y z ihx ihy ihz=>
  intro b fuel k p pre post hT hk hw hp hf
  obtain⟨fuel,rfl⟩:∃f,fuel=f+1:=⟨fuel - 1,by omega⟩
  obtain⟨ht,hlk⟩:=start (l:=x.ts++(y.ts++z.ts)) hT hk
  show cB (bL fuel) fuel W (k:Int) p=_
  unfold cB
  rw[cL ⟨by omega,hlk⟩,ht]
  dsimp only
  simp only[E.wf,Bool.and_eq_true]at hw
  simp only[E.depth]at hf
  have hx:=ihx b fuel (k+1) p (pre++[(43,0)]) (y.ts++z.ts++post) (by rw[hT];simp[E.ts]) (by simp[hk]) hw.1.1 hp (by omega)
  have hy:=ihy b fuel (k+1+x.ts.length) p (pre++(43,0)::x.ts) (z.ts++post) (by rw[hT];simp[E.ts]) (by simp[hk];omega) hw.1.2 hp (by omega)
  have hz:=ihz b fuel (k+1+x.ts.length+y.ts.length) p (pre++(43,0)::(x.ts++y.ts)) post (by rw[hT];simp[E.ts]) (by simp[hk];omega) hw.2 hp (by omega)
  rw[if_neg (by decide),if_neg (by decide),if_neg (by decide),if_neg (by decide),dU (by omega),bB (show bL fuel _ _ p=_ from hx),bB (show bL fuel _ _ p=_ from hy),bB (show bL fuel _ _ p=_ from hz)]
  simp only[E.den,E.ts,List.length_cons,List.length_append]
  rw[show k+1+x.ts.length+y.ts.length+z.ts.length=k+(x.ts.length+(y.ts.length+z.ts.length)+1) by omega]
  split<;>rfl
 | ag o x ih =>
  intro b fuel k p pre post hT hk hw hp hf
  obtain⟨fuel,rfl⟩:∃f,fuel=f+1:=⟨fuel - 1,by omega⟩
  obtain⟨ht,hlk⟩:=start (l:=x.ts) hT hk
  have har:=TH hw
  have hwx:=hw
  simp only[E.wf,Bool.and_eq_true,Bool.or_eq_true,decide_eq_true_eq]at hwx
  simp only[E.depth]at hf
  have hts:(E.ag o x).ts.length=x.ts.length+1:=rfl
  have hlen:=congrArg List.length hT
  simp only[List.length_append]at hlen
  show cB (bL fuel) fuel W (k:Int) p=_
  unfold cB
  rw[cL ⟨by omega,hlk⟩,ht]
  dsimp only
  rw[if_neg (by omega),if_neg (by omega),if_pos (by omega),cL (by omega)]
  let D:Nat->Int:=fun q=>x.den (Wg W) deg ((q:Nat):Int)
  let V:Nat->aL:=fun q=>(List.range q).map D++List.replicate (24 - q) 0
  have hVl:∀q,q<=24->(V q).length=24:=fun q hq=>by simp[V];omega
  have hset:∀q,q<24->(V q).set q (D q)=V (q+1):=fun q hq=>by
   show((List.range q).map D++List.replicate (24 - q) 0).set q (D q)=(List.range (q+1)).map D++List.replicate (24 - (q+1)) 0
   rw[show 24 - q=(24 - (q+1))+1 by omega,List.replicate_succ,List.set_append_right _ _ (by simp),List.range_succ]
   simp
  let N:Nat->Int:=fun q=>if q=0 then 0 else(((k+1+x.ts.length:Nat)):Int)
  refine Eq.trans (dR (step:=iG fuel W (k:Int) (bL fuel)) (K:=some ((E.ag o x).den (Wg W) deg p,(((k+(E.ag o x).ts.length:Nat)):Int))) deg (fun q=>(N q,(q:Int),V q)) (fun q ag hq=> ?_) (fun ag=> ?_) fuel (by omega)) rfl
  ·unfold iG
   dsimp only
   have hx:=ih true fuel (k+1) ((q:Nat):Int) (pre++[(o,0)]) post (by rw[hT];simp[E.ts]) (by simp[hk]) hwx.2 (fun _=>⟨q,rfl,hq⟩) (by omega)
   rw[if_pos (by rw[hv,hdeg];omega),dU (by omega),bB (show bL fuel _ _ _=_ from hx),cL ⟨by omega,hVl q (by omega)⟩,dU (by omega),Int.toNat_natCast]
   show ag (_,_,(V q).set q (D q))=_
   rw[hset q (by omega)]
   simp only[N]
   rw[if_neg (by omega)]
  ·unfold iG
   dsimp only
   rw[if_neg (by rw[hv,hdeg];omega)]
   have hfold:List.take deg (V deg)=(List.range deg).map D:=by
    show List.take deg ((List.range deg).map D++_)=_
    exact List.take_left' (by simp)
   have fin:∀y:Int,y=(((k+1+x.ts.length:Nat)):Int)->iF fuel W (k:Int) (N deg,V deg) y=some ((E.ag o x).den (Wg W) deg p,(((k+(E.ag o x).ts.length:Nat)):Int)):=by
    rintro y rfl
    unfold iF
    dsimp only
    rw[hv,hdeg,cL ⟨by omega,by omega,by rw[hVl deg hd24];omega⟩,ht,Int.toNat_natCast,hfold,bB (UW fuel o _ (by omega) (by simp;omega) (by omega))]
    unfold lD
    rw[hts,show k+1+x.ts.length=k+(x.ts.length+1) by omega]
    rfl
   unfold oZ
   dsimp only
   by_cases h0:deg=0
   ·rw[if_pos (by rw[hv,hdeg];omega),bB (Xs fuel (E.ag o x) har hT hk hT9 (by omega))]
    exact fin _ (by rw[hts];omega)
   ·rw[if_neg (by rw[hv,hdeg];omega)]
    exact fin _ (by simp only[N];rw[if_neg h0])
end
end Go.Proofs.YtigggfnchamobaaGreatDoor
end
section
namespace Go.Proofs.YtigggfnchamobaaGreatDoor
open Go.Sx
section
def eJ (U:Nat) (p0:PV) (p1:aX) (p2:Int) (p3:eD):Option (Int):=
 Option.bind (bL U ((((((p0.1.1,p0.1.2.1,p0.1.2.2)),((p0.2.1.1,p0.2.1.2)),p0.2.2.1,p0.2.2.2)),p1,p2,p3)) (0:Int) (-1:Int)) fun r6=>(some (r6.1))
theorem Nz:aO Tryz.prog 144:=Tryz.call144
theorem tW (U:Nat) {p0:PV} {p1:aX} {p2:Int} {p3:eD} (bx0:Nat)  (v1:Value)  (v2:Value)  (v3:Value)  (v4:Value)  (z5:mB)  (v6:Value)  (z7:pJ)  (v8:Value)  (z9:pJ)  (v10:Value) (r:Int) (h:eJ U p0 p1 p2 p3=some r):
  aT Tryz.prog 144 #[vP bx0,v8,vI (p2),v10] [bM bx0 [vS (p0.1.1),v1,v2,v3,v4,vI (p0.2.2.1),v6] 178,Sl aG v1 p0.1.2.1,Sl aE v2 p0.1.2.2,Sl bD v3 p0.2.1.1,S2 aV v4 z5 p0.2.1.2,S2 bD v6 z7 p0.2.2.2,S2 bD v8 z9 p1,Sl aV v10 p3] (fun x:Unit=>vI (r)) (fun x l=>l) (fun _ l=>l):=by
 refine aT.of Tryz.func144 rfl Tryz.ntmps144 rfl fun c=>?_
 refine sqR<|qkAsg rfl<|dtN<|sqR<|qkMove rfl<|qkMove rfl<|qkMove rfl<|qkMove rfl<|bQ (Know.one (aC.sl (aC.fact 6 rfl))) fun ho1=>bQ (Know.one ((aC.fact 7 rfl))) fun ho2=>?_
 refine aB (WC (r:=Value.agg #[Value.pointer (some ⟨bx0,0,none⟩),v8,vI (p2),v10]) rfl rfl rfl rfl (by intro w;simp[Instr.build,Instr.fill,dA,cN,cF,dB,dC,cO,d_,gK ho1,gK ho2])) rfl ?_
 refine aF (aJ.alloc (cs:=[Value.pointer none,kK,vI (0:Int),kK]) rfl rfl) rfl fun b3=>bQ (Know.one (aC.sl (aC.fact 6 rfl))) fun ho4=>bQ (Know.one ((aC.fact 7 rfl))) fun ho5=>bH 0 (vs:=[vP bx0,v8,vI (p2),v10]) rfl rfl (dK rfl (dK ho4 (dK rfl (dK ho5 rfl)))) rfl rfl rfl<|dtN<|sqR<|bnE h fun r6 w7 h=>aF (aJ.callQ xI (AU U b3 bx0 v1 v2 v3 v4 z5 v6 z7 v8 z9 v10 r6 w7) rfl (aD.cons (aC.res 0 rfl) (oI [0,1,2,3,4,5,6,7] rfl))) rfl fun x8=>qkMove rfl<|qkExt rfl<|qkExt rfl<|qkAsg rfl<|qkAsg rfl<|dtN<|sqR<|qkMove rfl<|qkAsg rfl<|dtN<|aP ?_
 cases h
 exact tV rfl
end
section
def iK (U:Nat) (p0:PV) (p1:aX) (p2:Int) (p3:Int):Option (Bool):=
 ck (0<=p3∧p3<(List.length p0.1.2.2:Int)) (Option.bind (eJ U ((((p0.1.1,p0.1.2.1,p0.1.2.2)),((p0.2.1.1,p0.2.1.2)),p0.2.2.1,p0.2.2.2)) p1 p2 ((at' p0.1.2.2 p3).2.1.2)) fun r2=>(some (decide (r2≠(0:Int)))))
theorem Un:aO Tryz.prog 118:=Tryz.call118
theorem Av (U:Nat) {p0:PV} {p1:aX} {p2:Int} {p3:Int} (bx0:Nat)  (v1:Value)  (v2:Value)  (v3:Value)  (v4:Value)  (z5:mB)  (v6:Value)  (z7:pJ)  (v8:Value)  (z9:pJ) (r:Bool) (h:iK U p0 p1 p2 p3=some r):
  aT Tryz.prog 118 #[vP bx0,v8,vI (p2),vI (p3)] [bM bx0 [vS (p0.1.1),v1,v2,v3,v4,vI (p0.2.2.1),v6] 178,Sl aG v1 p0.1.2.1,Sl aE v2 p0.1.2.2,Sl bD v3 p0.2.1.1,S2 aV v4 z5 p0.2.1.2,S2 bD v6 z7 p0.2.2.2,S2 bD v8 z9 p1] (fun x:Unit=>vB (r)) (fun x l=>l) (fun _ l=>l):=by
 refine aT.of Tryz.func118 rfl Tryz.ntmps118 rfl fun c=>?_
 refine sqR<|qkAsg rfl<|dtN<|sqR<|qkMove rfl<|qkMove rfl<|qkMove rfl<|qkMove rfl<|aB (bN rfl) rfl<|qkFld rfl<|qkFld rfl<|aB (cV rfl (aC.fact 0 rfl) rfl rfl rfl) rfl<|qkMove rfl<|ckE h fun j1 h=>aB (aY rfl rfl (aC.fact 2 rfl) rfl rfl j1) rfl<|aB (mX rfl rfl rfl rfl rfl) rfl<|aB (pA rfl (aC.fact 2 rfl) rfl rfl rfl vY j1) rfl<|bnE h fun r2 w3 h=>aF (aJ.callQ Nz (tW U bx0 v1 v2 v3 v4 z5 v6 z7 v8 z9 ((at' p0.1.2.2 p3).2.1.1) r2 w3) rfl (aD.cons (aC.fact 0 rfl) (aD.cons (aC.fact 1 rfl) (aD.cons (aC.fact 2 rfl) (aD.cons (aC.fact 3 rfl) (aD.cons (aC.fact 4 rfl) (aD.cons (aC.fact 5 rfl) (aD.cons (aC.fact 6 rfl) (aD.cons (sM (aC.fact 2 rfl) v_ j1.1 j1.2) .nil))))))))) rfl fun x4=>qkNeq rfl<|qkAsg rfl<|dtN<|aP ?_
 cases h
 exact lI rfl
end
section
def lF  (a1:Unit):Option (Int):=
 some (-1:Int)
def iI (U:Nat) (p0:Eo) (p1:aX) (p2:Int) (a5:Int) (ag4:(Int)->Option (Int)):Option (Int):=
 if a5<(List.length p0.1.2.2:Int)then(Option.bind (iK U ((((p0.2.1.1.1,p0.2.1.1.2.1,p0.2.1.1.2.2)),((p0.2.1.2.1.1,p0.2.1.2.1.2)),p0.2.1.2.2.1,p0.2.1.2.2.2)) p1 p2 a5) fun r9=>(if r9=true then(some (a5))else(ag4 (wI .i64 (a5+(1:Int))))))else(lF  (()))
def dM (U:Nat) (p0:Eo) (p1:aX) (p2:Int):Option (Int):=
 bE (iI U p0 p1 p2) U (0:Int)
theorem Q_:aO Tryz.prog 88:=Tryz.call88
theorem vD (U:Nat) {p0:Eo} {p1:aX} {p2:Int} (bx0:Nat)  (v1:Value)  (v2:Value)  (bx3:Nat)  (v4:Value)  (v5:Value)  (v6:Value)  (v7:Value)  (z8:mB)  (v9:Value)  (z10:pJ)  (v11:Value)  (z12:mB)  (v13:Value)  (z14:pJ) (r:Int) (h:dM U p0 p1 p2=some r):
  aT Tryz.prog 88 #[vP bx0,v13,vI (p2)] [bM bx0 [vS (p0.1.1),v1,v2,vP bx3,v11] 140,Sl aG v1 p0.1.2.1,Sl aE v2 p0.1.2.2,bM bx3 [vS (p0.2.1.1.1),v4,v5,v6,v7,vI (p0.2.1.2.2.1),v9] 178,Sl aG v4 p0.2.1.1.2.1,Sl aE v5 p0.2.1.1.2.2,Sl bD v6 p0.2.1.2.1.1,S2 aV v7 z8 p0.2.1.2.1.2,S2 bD v9 z10 p0.2.1.2.2.2,S2 aV v11 z12 p0.2.2,S2 bD v13 z14 p1] (fun x:Unit=>vI (r)) (fun x l=>l) (fun _ l=>l):=by
 refine aT.of Tryz.func88 rfl Tryz.ntmps88 rfl fun c=>?_
 unfold dM at h
 refine sqR<|qkAsg rfl<|dtN<|aI<|midU (fun a1=>lF  a1=some r) (fun a1 b2=>[]) (fun a1 b2=>[]) ?_ ?_
 ·refine sqR<|qkMove rfl<|aB (bN rfl) rfl<|qkFld rfl<|qkFld rfl<|aB (cV rfl (aC.fact 0 rfl) rfl rfl rfl) rfl<|qkLen (aC.fact 2 rfl) rfl<|qkMove rfl<|dtN<|aN<|loopL (iI U p0 p1 p2) (fun a5 b6=>[(0,vP bx0),(1,v13),(2,vI (p2)),(13,vI (List.length p0.1.2.2:Int)),(14,vI (a5))]) (fun a5 b6=>[]) (0:Int) () h SF (aQ.refl _) ?_
  intro k7 a5 b6 h
  refine sqR<|qkLss rfl<|dtN<|aI ?_
  refine eB h rfl (fun h=>?_) fun h=>?_
  ·refine cI<|aI<|aN<|sqR<|qkMove rfl<|qkAsg rfl<|dtN<|sqR<|qkMove rfl<|aB (bN rfl) rfl<|qkFld rfl<|aB (cV rfl (aC.fact 0 rfl) rfl rfl rfl) rfl<|qkMove rfl<|qkMove rfl<|qkMove rfl<|bnE h fun r9 w10 h=>aF (aJ.callQ Un (Av U bx3 v4 v5 v6 v7 z8 v9 z10 v13 z14 r9 w10) rfl (oI [3,4,5,6,7,8,10] rfl)) rfl fun x11=>dtN ?_
   refine As h rfl (fun _ h=>?_) fun _ h=>?_
   ·refine sqR<|qkMove rfl<|qkAsg rfl<|dtN<|aP<|bK<|aH<|aH<|bK<|aH ?_
    cases h
    exact lI rfl
   refine cU<|inT<|aM<|qkAdd rfl<|qkMove rfl<|dtN ?_
   exact yF (wI .i64 (a5+(1:Int))) () h SF rfl
  refine vT ?_
  exact jV () (()) h SF rfl
 intro a1 b2 h
 unfold lF at h
 refine sqR<|qkAsg rfl<|dtN<|aP ?_
 cases h
 exact lI rfl
end
section
def rR (p0:Int) (p1:eZ) (p2:Int) (a3:Bool):Option (Int):=
 if a3=true then(some (p2))else(if p0=(3:Int)then(some (-1:Int))else(if p2<p1.1 then(some (p1.1))else(some (p1.2))))
def tH (U:Nat) (p0:Int) (p1:eZ) (p2:Int):Option (Int):=
 if p1.1<=p2 then(rR p0 p1 p2 (decide (p2<=p1.2)))else(rR p0 p1 p2 (false))
theorem Uz:aO Tryz.prog 160:=Tryz.call160
theorem GN (U:Nat) {p0:Int} {p1:eZ} {p2:Int} (r:Int) (h:tH U p0 p1 p2=some r):
  aT Tryz.prog 160 #[vI (p0),Value.agg #[vI (p1.1),vI (p1.2)],vI (p2)] [] (fun x:Unit=>vI (r)) (fun x l=>l) (fun _ l=>l):=by
 refine aT.of Tryz.func160 rfl Tryz.ntmps160 rfl fun c=>?_
 refine sqR<|aF (aJ.box (cs:=[vI (p1.1),vI (p1.2)]) rfl rfl) rfl fun b1=>qkAsg rfl<|dtN<|aI<|aN<|aI<|midU (fun a3=>rR p0 p1 p2 a3=some r) (fun a3 b4=>[(0,vI (p0)),(2,vI (p2)),(4,vP b1),(7,vB (a3))]) (fun a3 b4=>[bM b1 [vI (p1.1),vI (p1.2)] 145]) ?_ ?_
 ·refine aM<|qkMove rfl ?_
  refine aB (mE (i:=0) rfl rfl rfl rfl rfl (by decide)) rfl ?_
  refine qkLd 0 rfl<|aB (FM rfl rfl) rfl<|qkMove rfl ?_
  refine Cv h rfl (fun _ h=>?_) fun _ h=>?_
  ·refine gyMove rfl ?_
   refine aR rfl (mE (i:=1) rfl rfl rfl rfl rfl (by decide)) rfl ?_
   refine aR rfl (dX 0 rfl rfl rfl rfl rfl) rfl<|aR rfl (yM rfl rfl) rfl<|qkPkT rfl<|qkAsg rfl<|dtN ?_
   exact jV (decide (p2<=p1.2)) () h SF rfl
  refine gdSkip rfl<|gdSkip rfl<|gdSkip rfl<|gdSkip rfl<|qkPkF rfl<|qkAsg rfl<|dtN ?_
  exact jV (false) () h SF rfl
 intro a3 b4 h
 refine As h rfl (fun _ h=>?_) fun _ h=>?_
 ·refine sqR<|qkMove rfl<|qkAsg rfl<|dtN<|aP<|bK<|aH ?_
  cases h
  exact tV rfl
 refine sqR<|qkMove rfl<|qkEql rfl<|qkAsg rfl<|dtN ?_
 refine eB h rfl (fun h=>?_) fun h=>?_
 ·refine sqR<|qkAsg rfl<|dtN<|aP<|bK<|aH ?_
  cases h
  exact tV rfl
 refine sqR<|qkMove rfl ?_
 refine aB (mE (i:=0) rfl rfl rfl rfl rfl (by decide)) rfl ?_
 refine qkLd 0 rfl<|qkLss rfl<|qkAsg rfl<|dtN ?_
 refine eB h rfl (fun h=>?_) fun h=>?_
 ·refine sqR ?_
  refine aB (mE (i:=0) rfl rfl rfl rfl rfl (by decide)) rfl ?_
  refine qkLd 0 rfl<|qkAsg rfl<|dtN<|aP<|bK<|aH ?_
  cases h
  exact tV rfl
 refine cU<|inT<|sqR ?_
 refine aB (mE (i:=1) rfl rfl rfl rfl rfl (by decide)) rfl ?_
 refine qkLd 0 rfl<|qkAsg rfl<|dtN<|aP ?_
 cases h
 exact tV rfl
end
section
def lE  (a5:aL):Option aL:=
 some (a5)
def iH (U:Nat) (p0:Eo) (p1:aX) (p2:Int) (p3:Int) (a11:mI) (ag10:sR->Option aL):Option aL:=
 if a11.1<(List.length ((at' p0.1.2.2 p3).2.2.2):Int)then(ck (0<=a11.1∧a11.1<(List.length ((at' p0.1.2.2 p3).2.2.2):Int)) (Option.bind (eJ U ((((p0.2.1.1.1,p0.2.1.1.2.1,p0.2.1.1.2.2)),((p0.2.1.2.1.1,p0.2.1.2.1.2)),p0.2.1.2.2.1,p0.2.1.2.2.2)) p1 p2 ((at' ((at' p0.1.2.2 p3).2.2.2) a11.1).2.2)) fun r18=>(ck (0<=((at' ((at' p0.1.2.2 p3).2.2.2) a11.1).1)∧((at' ((at' p0.1.2.2 p3).2.2.2) a11.1).1)<(List.length p0.1.2.1:Int)) (ck (0<=p2∧p2<(List.length p0.2.2:Int)) (ck (0<=((at' ((at' p0.1.2.2 p3).2.2.2) a11.1).1)∧((at' ((at' p0.1.2.2 p3).2.2.2) a11.1).1)<(List.length (at' p0.2.2 p2):Int)) (Option.bind (tH U ((at' p0.1.2.1 ((at' ((at' p0.1.2.2 p3).2.2.2) a11.1).1)).2.1) ((((at' (at' p0.2.2 p2) ((at' ((at' p0.1.2.2 p3).2.2.2) a11.1).1)).1),((at' (at' p0.2.2 p2) ((at' ((at' p0.1.2.2 p3).2.2.2) a11.1).1)).2))) r18) fun r24=>(ck (0<=((at' ((at' p0.1.2.2 p3).2.2.2) a11.1).1)∧((at' ((at' p0.1.2.2 p3).2.2.2) a11.1).1)<(List.length a11.2:Int)) (ag10 ((wI .i64 (a11.1+(1:Int))),(List.set a11.2 (Int.toNat ((at' ((at' p0.1.2.2 p3).2.2.2) a11.1).1)) r24))))))))))else(lE  (a11.2))
def jH (U:Nat) (p0:Eo) (p1:aX) (p2:Int) (p3:Int):Option aL:=
 ck (0<=p2∧p2<(List.length p1:Int)) (ck ((List.length ([]:aL):Int)+(List.length (at' p1 p2):Int)<=1099511627) (ck (0<=p3∧p3<(List.length p0.1.2.2:Int)) (bE (iH U p0 p1 p2 p3) U ((0:Int),(([]:aL)++(at' p1 p2))))))
theorem Ur:aO Tryz.prog 134:=Tryz.call134
theorem AV (U:Nat) {p0:Eo} {p1:aX} {p2:Int} {p3:Int} (bx0:Nat)  (v1:Value)  (v2:Value)  (bx3:Nat)  (v4:Value)  (v5:Value)  (v6:Value)  (v7:Value)  (z8:mB)  (v9:Value)  (z10:pJ)  (v11:Value)  (z12:mB)  (v13:Value)  (z14:pJ) (r:aL) (h:jH U p0 p1 p2 p3=some r):
  aT Tryz.prog 134 #[vP bx0,v13,vI (p2),vI (p3)] [bM bx0 [vS (p0.1.1),v1,v2,vP bx3,v11] 140,Sl aG v1 p0.1.2.1,Sl aE v2 p0.1.2.2,bM bx3 [vS (p0.2.1.1.1),v4,v5,v6,v7,vI (p0.2.1.2.2.1),v9] 178,Sl aG v4 p0.2.1.1.2.1,Sl aE v5 p0.2.1.1.2.2,Sl bD v6 p0.2.1.2.1.1,S2 aV v7 z8 p0.2.1.2.1.2,S2 bD v9 z10 p0.2.1.2.2.2,S2 aV v11 z12 p0.2.2,S2 bD v13 z14 p1] (fun x:Value=>x) (fun x l=>Ar bU x r::l) (fun _ l=>l):=by
 refine aT.of Tryz.func134 rfl Tryz.ntmps134 rfl fun c=>?_
 refine sqR<|qkAsg rfl<|dtN<|sqR<|qkMove rfl<|qkMove rfl<|ckE h fun j1 h=>aB (cK rfl rfl (aC.fact 10 rfl) rfl rfl j1) rfl<|aB (cJ rfl (aC.fact 10 rfl) rfl rfl j1) rfl<|jN (iL bU)<|ckE h fun j3 h=>aF (fT 0 cP rfl rfl rfl (aC.el (aC.fact 10 rfl) j1.1 j1.2) rfl rfl rfl rfl j3 rfl) rfl fun u2=>qkAsg rfl<|dtN<|aI<|midU (fun a5=>lE  a5=some r) (fun a5 b6=>[(9,u2)]) (fun a5 b6=>[Ar bU u2 a5]) ?_ ?_
 ·refine sqR<|qkMove rfl<|aB (bN rfl) rfl<|qkFld rfl<|qkFld rfl<|aB (cV rfl (aC.fact 0 rfl) rfl rfl rfl) rfl<|qkMove rfl<|ckE h fun j7 h=>aB (aY rfl rfl (aC.fact 2 rfl) rfl rfl j7) rfl<|aB (mX rfl rfl rfl rfl rfl) rfl<|aB (pA rfl (aC.fact 2 rfl) rfl rfl rfl vZ j7) rfl<|aB (fR rfl (sM (aC.fact 2 rfl) eL j7.1 j7.2) rfl) rfl<|qkMove rfl<|dtN<|aN<|loopL (iH U p0 p1 p2 p3) (fun a11 b12=>[(0,vP bx0),(1,v13),(2,vI (p2)),(9,u2),(26,(at' p0.1.2.2 p3).2.2.1),(27,vI (List.length ((at' p0.1.2.2 p3).2.2.2):Int)),(28,vI (a11.1))]) (fun a11 b12=>[Ar bU u2 a11.2]) ((0:Int),(([]:aL)++(at' p1 p2))) () h SF (aQ.refl _) ?_
  intro k13 a11 b12 h
  refine sqR<|qkLss rfl<|dtN<|aI ?_
  refine eB h rfl (fun h=>?_) fun h=>?_
  ·refine cI<|aI<|aN<|sqR<|ckE h fun j15 h=>aB (aY rfl rfl (sM (aC.fact 2 rfl) eL j7.1 j7.2) rfl rfl j15) rfl<|aB (Me (cs:=[vI ((at' ((at' p0.1.2.2 p3).2.2.2) a11.1).1),(at' ((at' p0.1.2.2 p3).2.2.2) a11.1).2.1]) rfl (sM (aC.fact 2 rfl) eL j7.1 j7.2) Hj rfl rfl rfl rfl j15) rfl<|aF (aJ.alloc (cs:=[vI (0:Int),kK]) rfl rfl) rfl fun b16=>bQ (Know.one ((sM (sM (aC.fact 2 rfl) eL j7.1 j7.2) Ag j15.1 j15.2))) fun ho17=>bH 0 (vs:=[vI ((at' ((at' p0.1.2.2 p3).2.2.2) a11.1).1),(at' ((at' p0.1.2.2 p3).2.2.2) a11.1).2.1]) rfl rfl (dK rfl (dK ho17 rfl)) rfl rfl rfl<|dtN<|aI ?_
   refine JR.start [0,1,3,7,0,0,0,64,255,511] 8 mixedOrders (by decide +kernel) ?_
   refine JR.open (by exact rfl) ?_
   refine jkMove rfl<|jqN rfl (bN rfl)<|jkFld rfl<|bG rfl .nil (mJ 0 rfl) (cV rfl (aC.fact 0 rfl) rfl rfl rfl) aK.z<|jkMove rfl<|jkMove rfl<|jkFld rfl<|jkLd 0 rfl<|bO 8 rfl rfl<|bnE h fun r18 w19 h=>aF (aJ.callQ Nz (tW U bx3 v4 v5 v6 v7 z8 v9 z10 v13 z14 ((at' ((at' p0.1.2.2 p3).2.2.2) a11.1).2.1) r18 w19) rfl (aD.cons (aC.fact 3 rfl) (aD.cons (aC.fact 4 rfl) (aD.cons (aC.fact 5 rfl) (aD.cons (aC.fact 6 rfl) (aD.cons (aC.fact 7 rfl) (aD.cons (aC.fact 8 rfl) (aD.cons (aC.fact 10 rfl) (aD.cons (sM (sM (aC.fact 2 rfl) eL j7.1 j7.2) Ag j15.1 j15.2) .nil))))))))) rfl fun x20=>qkAsg rfl<|dtN ?_
   refine JR.start [0,0,2,0,8,24,56,120,0,256,1016,2040,4088,0,8192,24576,57344,0,253952,516096,0,1048576,4186112,8380416,0,33554424,67108863,134217727] 26 mixedOrders (by decide +kernel) ?_
   refine JR.open (by exact rfl) ?_
   refine jkMove rfl<|jkFld rfl<|jkLd 0 rfl<|jkMove rfl<|jqN rfl (bN rfl)<|jkFld rfl<|jkFld rfl<|bG rfl .nil (mJ 0 rfl) (cV rfl (aC.fact 0 rfl) rfl rfl rfl) aK.z<|jkFld rfl<|jkLd 0 rfl<|ckE h fun j21 h=>bG rfl .nil (mJ 1 rfl) (aY rfl rfl (aC.fact 0 rfl) rfl rfl j21) aK.z<|jqN rfl (mX rfl rfl rfl rfl rfl)<|bG rfl .nil (mJ 1 rfl) (pA rfl (aC.fact 0 rfl) rfl rfl rfl tU j21) aK.z<|jkMove rfl<|jqN rfl (bN rfl)<|jkFld rfl<|bG rfl .nil (mJ 0 rfl) (cV rfl (aC.fact 0 rfl) rfl rfl rfl) aK.z<|jkMove rfl<|ckE h fun j22 h=>bG rfl .nil (mJ 9 rfl) (cK rfl rfl (aC.fact 0 rfl) rfl rfl j22) aK.z<|bG rfl .nil (mJ 9 rfl) (cJ rfl (aC.fact 0 rfl) rfl rfl j22) aK.z<|jkFld rfl<|jkLd 0 rfl<|ckE h fun j23 h=>bG rfl .nil (mJ 9 rfl) (aY rfl rfl (aC.el (aC.fact 0 rfl) j22.1 j22.2) rfl rfl j23) aK.z<|bG rfl .nil (mJ 9 rfl) (fL (cs:=[vI ((at' (at' p0.2.2 p2) ((at' ((at' p0.1.2.2 p3).2.2.2) a11.1).1)).1),vI ((at' (at' p0.2.2 p2) ((at' ((at' p0.1.2.2 p3).2.2.2) a11.1).1)).2)]) rfl (aC.el (aC.fact 0 rfl) j22.1 j22.2) bJ rfl rfl rfl rfl j23) aK.z<|jkMove rfl<|bnE h fun r24 w25 h=>JR.loud rfl rfl rfl (aJ.callQ Uz (GN U  r24 w25) rfl .nil) rfl (fun x26=>(rA [([0],[])] rfl)) fun x26=>bO 26 rfl rfl<|ckE h fun j27 h=>aB (aY rfl rfl (aU (aC.res 1 rfl) cP) rfl rfl j27) rfl<|uT 1 r24 j27 rfl rfl rfl rfl rfl rfl rfl<|dY<|inT<|aM<|qkAdd rfl<|qkMove rfl<|dtN ?_
   exact lS ((wI .i64 (a11.1+(1:Int))),(List.set a11.2 (Int.toNat ((at' ((at' p0.1.2.2 p3).2.2.2) a11.1).1)) r24)) () h SF (aQ.ix [1] rfl rfl) (aD.refl _ _)
  refine vT ?_
  exact jV (a11.2) () h SF rfl
 intro a5 b6 h
 unfold lE at h
 refine sqR<|qkMove rfl<|qkAsg rfl<|dtN<|aP ?_
 cases h
 exact fS (u2) rfl rfl (RV.tmp rfl) (aQ.refl _) aD.nil
end
section
def lG  (a6:aX):Option aX:=
 some (a6)
def iJ (a12:Int×aX) (ag11:(Int×aX)->Option aX) (a18:aX):Option aX:=
 ag11 ((wI .i64 (a12.1+(1:Int))),a18)
def fP (U:Nat) (p0:Eo) (p1:aX) (p2:Int) (a12:Int×aX) (ag11:(Int×aX)->Option aX):Option aX:=
 if a12.1<(List.length p1:Int)then(ck (0<=a12.1) (if(cS .u32 (nU .u32 p2 a12.1) (1:Int))=(1:Int)then(Option.bind (dM U ((((p0.1.1,p0.1.2.1,p0.1.2.2)),((((p0.2.1.1.1,p0.2.1.1.2.1,p0.2.1.1.2.2)),((p0.2.1.2.1.1,p0.2.1.2.1.2)),p0.2.1.2.2.1,p0.2.1.2.2.2)),p0.2.2)) p1 a12.1) fun r22=>(Option.bind (jH U ((((p0.1.1,p0.1.2.1,p0.1.2.2)),((((p0.2.1.1.1,p0.2.1.1.2.1,p0.2.1.1.2.2)),((p0.2.1.2.1.1,p0.2.1.2.1.2)),p0.2.1.2.2.1,p0.2.1.2.2.2)),p0.2.2)) p1 a12.1 r22) fun r25=>(ck (0<=a12.1∧a12.1<(List.length a12.2:Int)) (iJ a12 ag11 (List.set a12.2 (Int.toNat a12.1) r25)))))else(iJ a12 ag11 (a12.2))))else(lG  (a12.2))
def gE (U:Nat) (p0:Eo) (p1:aX) (p2:Int):Option aX:=
 Option.bind (rD U p1) fun r1=>(bE (fP U p0 p1 p2) U ((0:Int),r1))
theorem Ul:aO Tryz.prog 113:=Tryz.call113
theorem AW (U:Nat) {p0:Eo} {p1:aX} {p2:Int} (bx0:Nat)  (v1:Value)  (v2:Value)  (bx3:Nat)  (v4:Value)  (v5:Value)  (v6:Value)  (v7:Value)  (z8:mB)  (v9:Value)  (z10:pJ)  (v11:Value)  (z12:mB)  (v13:Value)  (z14:pJ) (r:aX) (h:gE U p0 p1 p2=some r):
  aT Tryz.prog 113 #[vP bx0,v13,vU (p2)] [bM bx0 [vS (p0.1.1),v1,v2,vP bx3,v11] 140,Sl aG v1 p0.1.2.1,Sl aE v2 p0.1.2.2,bM bx3 [vS (p0.2.1.1.1),v4,v5,v6,v7,vI (p0.2.1.2.2.1),v9] 178,Sl aG v4 p0.2.1.1.2.1,Sl aE v5 p0.2.1.1.2.2,Sl bD v6 p0.2.1.2.1.1,S2 aV v7 z8 p0.2.1.2.1.2,S2 bD v9 z10 p0.2.1.2.2.2,S2 aV v11 z12 p0.2.2,S2 bD v13 z14 p1] (fun x:Value×List Value=>x.1) (fun x l=>Ar cZ.raw x.1 x.2::jK bU x.2 r::l) (fun _ l=>l):=by
 refine aT.of Tryz.func113 rfl Tryz.ntmps113 rfl fun c=>?_
 refine sqR<|qkAsg rfl<|dtN<|sqR<|qkMove rfl<|bnE h fun r1 w2 h=>aF (aJ.callQ Nt (BV U v13 z14 r1 w2) rfl (oI [10] rfl)) rfl fun x3=>qkAsg rfl<|dtN<|aI<|midL (B:=fJ) (fun a6=>lG  a6=some r) (fun a6 b7=>[(7,x3.1)]) (fun a6 b7=>[Ar cZ.raw x3.1 b7,jK bU b7 a6]) ?_ ?_
 ·refine sqR<|qkMove rfl<|aB (iM rfl (aC.fact 10 rfl) rfl) rfl<|qkMove rfl<|dtN<|aN<|loopL (B:=fJ) (fP U p0 p1 p2) (fun a12 b13=>[(0,vP bx0),(1,v13),(2,vU (p2)),(7,x3.1),(12,vI (List.length p1:Int)),(13,vI (a12.1))]) (fun a12 b13=>[Ar cZ.raw x3.1 b13,jK bU b13 a12.2]) ((0:Int),r1) (x3.2) h SF (aQ.refl _) ?_
  intro k14 a12 b13 h
  refine sqR<|qkLss rfl<|dtN<|aI ?_
  refine eB h rfl (fun h=>?_) fun h=>?_
  ·refine cI<|aI<|midL (B:=fJ) (fun a18=>iJ a12 (bE (fP U p0 p1 p2) k14) a18=some r) (fun a18 b19=>[(0,vP bx0),(1,v13),(2,vU (p2)),(7,x3.1),(12,vI (List.length p1:Int)),(13,vI (a12.1))]) (fun a18 b19=>[Ar cZ.raw x3.1 b19,jK bU b19 a18]) ?_ ?_
   ·refine aN<|sqR<|qkMove rfl<|qkAsg rfl<|dtN<|sqR<|qkMove rfl<|qkMove rfl<|ckE h fun j20 h=>aB (CQ rfl rfl j20) rfl<|qkAnd rfl<|qkEql rfl<|dtN ?_
    refine eB h rfl (fun h=>?_) fun h=>?_
    ·refine aM<|qkMove rfl<|qkMove rfl<|qkMove rfl<|qkMove rfl<|qkMove rfl<|qkMove rfl<|qkMove rfl<|qkMove rfl<|bnE h fun r22 w23 h=>aF (aJ.callQ Q_ (vD U bx0 v1 v2 bx3 v4 v5 v6 v7 z8 v9 z10 v11 z12 v13 z14 r22 w23) rfl (oI [0,1,2,3,4,5,6,7,8,9,10] rfl)) rfl fun x24=>bnE h fun r25 w26 h=>aF (aJ.callQ Ur (AV U bx0 v1 v2 bx3 v4 v5 v6 v7 z8 v9 z10 v11 z12 v13 z14 r25 w26) rfl (oI [0,1,2,3,4,5,6,7,8,9,10] rfl)) rfl fun x27=>ckE h fun j28 h=>aB (cK rfl rfl (bF (i:=1) (j:=2) rfl rfl cP) rfl rfl j28) rfl<|bQ (Know.one ((aU (aC.res 0 rfl) cP))) fun ho29=>jN (tZ (k:=a12.1) 2 0 rfl rfl rfl j28) ?_
     refine mD 0 1 ⟨j28.1,by first|exact j28.2|simpa using j28.2⟩ rfl rfl rfl rfl rfl (by simp) ho29 rfl ?_
     refine dY<|inT ?_
     exact jV (List.set a12.2 (Int.toNat a12.1) r25) (List.set b13 (Int.toNat a12.1) x27) h SF rfl
    refine cU<|inT ?_
    exact jV (a12.2) (b13) h SF rfl
   intro a18 b19 h
   unfold iJ at h
   refine aM<|qkAdd rfl<|qkMove rfl<|dtN ?_
   exact yF ((wI .i64 (a12.1+(1:Int))),a18) (b19) h SF rfl
  refine vT ?_
  exact jV (a12.2) (b13) h SF rfl
 intro a6 b7 h
 unfold lG at h
 refine sqR<|qkMove rfl<|qkAsg rfl<|dtN<|aP ?_
 cases h
 exact fS (x3.1,b7) rfl rfl (RV.tmp rfl) (aQ.refl _) aD.nil
end
section
def uP  (a2:Int):Option (Int):=
 some (a2)
def rJ (a7:eZ) (ag6:gO->Option (Int)) (a12:Int):Option (Int):=
 ag6 (a12,(wI .i64 (a7.2+(1:Int))))
def oW (p0:Int) (g1:Int->Option Bool) (a7:eZ) (ag6:gO->Option (Int)):Option (Int):=
 if a7.2<p0 then(Option.bind (g1 a7.2) fun r14=>(if r14=true then(ck (0<=a7.2) (rJ a7 ag6 (IM .u32 a7.1 (zH .u32 (1:Int) a7.2))))else(rJ a7 ag6 (a7.1))))else(uP  (a7.1))
def wG (U:Nat) (p0:Int) (g1:Int->Option Bool):Option (Int):=
 bE (oW p0 g1) U ((0:Int),(0:Int))
theorem Xg:aO Tryz.prog 86:=Tryz.call86
theorem JB (U:Nat) {p0:Int} {g1:Int->Option Bool} (f1:FuncId) (cs1:fJ) (Lf:List aS) (hb_g1:aO Tryz.prog f1) (hm_g1:∀(y0:Int) (r:Bool),g1 y0=some r->aT Tryz.prog f1 ([vI (y0)]++cs1).toArray Lf (fun _:Unit=>vB (r)) (fun _ l=>l) (fun _ l=>l)) (r:Int) (h:wG U p0 g1=some r):
  aT Tryz.prog 86 #[vI (p0),Value.func (.func f1) #[] (cs1).toArray] ([]++Lf) (fun x:Unit=>vU (r)) (fun x l=>l) (fun _ l=>l):=by
 refine aT.of Tryz.func86 rfl Tryz.ntmps86 rfl fun c=>?_
 unfold wG at h
 refine sqR<|qkAsg rfl<|dtN<|sqR<|qkAsg rfl<|dtN<|aI<|vF (B:=Unit) (fun a2=>uP  a2=some r) (fun a2 b3=>[(5,vU (a2))]) (fun a2 b3=>[]) (fun a2 b3=>([]++Lf)) ?_ ?_
 ·refine sqR<|qkMove rfl<|qkMove rfl<|dtN<|aN<|CF (B:=Unit) (oW p0 g1) (fun a7 b8=>[(1,Value.func (.func f1) #[] (cs1).toArray),(5,vU (a7.1)),(7,vI (p0)),(8,vI (a7.2))]) (fun a7 b8=>[]) (fun a7 b8=>([]++Lf)) ((0:Int),(0:Int)) () h SF (aQ.refl _) (aD.refl _ _) ?_
  intro k9 a7 b8 h
  refine sqR<|qkLss rfl<|dtN<|aI ?_
  refine eB h rfl (fun h=>?_) fun h=>?_
  ·refine cI<|aI<|vF (B:=Unit) (fun a12=>rJ a7 (bE (oW p0 g1) k9) a12=some r) (fun a12 b13=>[(1,Value.func (.func f1) #[] (cs1).toArray),(5,vU (a12)),(7,vI (p0)),(8,vI (a7.2))]) (fun a12 b13=>[]) (fun a12 b13=>([]++Lf)) ?_ ?_
   ·refine aN<|sqR<|qkMove rfl<|qkAsg rfl<|dtN<|sqR<|qkMove rfl<|qkMove rfl<|bnE h fun r14 w15 h=>aF (pN (vs:=[vI (a7.2)]) (cs:=cs1) hb_g1 rfl (hm_g1 a7.2 r14 w15) rfl (aD.tail _) (fun _ _=>rfl)) rfl fun x16=>dtN ?_
    refine As h rfl (fun _ h=>?_) fun _ h=>?_
    ·refine aM<|qkMove rfl<|qkMove rfl<|ckE h fun j18 h=>aB (Kp rfl rfl j18) rfl<|aB (TU rfl rfl) rfl<|qkAsg rfl<|dY<|inT ?_
     exact jV (IM .u32 a7.1 (zH .u32 (1:Int) a7.2)) () h SF rfl
    refine cU<|inT ?_
    exact jV (a7.1) () h SF rfl
   intro a12 b13 h
   unfold rJ at h
   refine aM<|qkAdd rfl<|qkMove rfl<|dtN ?_
   exact yF (a12,(wI .i64 (a7.2+(1:Int)))) () h SF rfl
  refine vT ?_
  exact jV (a7.1) () h SF rfl
 intro a2 b3 h
 unfold uP at h
 refine sqR<|qkMove rfl<|qkAsg rfl<|dtN<|aP ?_
 cases h
 exact lI rfl
end
section
def iD (U:Nat) (p0:Int) (p1:Eo) (p2:aX):Option (Bool):=
 Option.bind (dM U ((((p1.1.1,p1.1.2.1,p1.1.2.2)),((((p1.2.1.1.1,p1.2.1.1.2.1,p1.2.1.1.2.2)),((p1.2.1.2.1.1,p1.2.1.2.1.2)),p1.2.1.2.2.1,p1.2.1.2.2.2)),p1.2.2)) p2 p0) fun r1=>(some (decide ((0:Int)<=r1)))
theorem Xh:aO Tryz.prog 87:=Tryz.call87
theorem xE (U:Nat) {p0:Int} {p1:Eo} {p2:aX} (bx0:Nat)  (bx1:Nat)  (v2:Value)  (v3:Value)  (bx4:Nat)  (v5:Value)  (v6:Value)  (v7:Value)  (v8:Value)  (z9:mB)  (v10:Value)  (z11:pJ)  (v12:Value)  (z13:mB)  (bx14:Nat)  (v15:Value)  (z16:pJ) (r:Bool) (h:iD U p0 p1 p2=some r):
  aT Tryz.prog 87 #[vI (p0),vP bx0,vP bx14] [bM bx0 [vP bx1] 93,bM bx1 [vS (p1.1.1),v2,v3,vP bx4,v12] 140,Sl aG v2 p1.1.2.1,Sl aE v3 p1.1.2.2,bM bx4 [vS (p1.2.1.1.1),v5,v6,v7,v8,vI (p1.2.1.2.2.1),v10] 178,Sl aG v5 p1.2.1.1.2.1,Sl aE v6 p1.2.1.1.2.2,Sl bD v7 p1.2.1.2.1.1,S2 aV v8 z9 p1.2.1.2.1.2,S2 bD v10 z11 p1.2.1.2.2.2,S2 aV v12 z13 p1.2.2,bM bx14 [v15] 36,S2 bD v15 z16 p2] (fun x:Unit=>vB (r)) (fun x l=>l) (fun _ l=>l):=by
 refine aT.of Tryz.func87 rfl Tryz.ntmps87 rfl fun c=>?_
 refine sqR<|qkAsg rfl<|dtN<|sqR<|aB (cV rfl (aC.fact 0 rfl) rfl rfl rfl) rfl<|aB (cV rfl (aC.fact 11 rfl) rfl rfl rfl) rfl<|qkMove rfl<|bnE h fun r1 w2 h=>aF (aJ.callQ Q_ (vD U bx1 v2 v3 bx4 v5 v6 v7 v8 z9 v10 z11 v12 z13 v15 z16 r1 w2) rfl (oI [1,2,3,4,5,6,7,8,9,10,12] rfl)) rfl fun x3=>aB (FM rfl rfl) rfl<|qkAsg rfl<|dtN<|aP ?_
 cases h
 exact lI rfl
end
section
def cE (U:Nat) (p0:Eo) (p1:aX):Option (Int):=
 Option.bind (wG U (List.length p0.2.2:Int) (fun y0=>iD U y0 ((((p0.1.1,p0.1.2.1,p0.1.2.2)),((((p0.2.1.1.1,p0.2.1.1.2.1,p0.2.1.1.2.2)),((p0.2.1.2.1.1,p0.2.1.2.1.2)),p0.2.1.2.2.1,p0.2.1.2.2.2)),p0.2.2)) p1)) fun r4=>(some (r4))
theorem Ml:aO Tryz.prog 57:=Tryz.call57
theorem nP (U:Nat) {p0:Eo} {p1:aX} (bx0:Nat)  (v1:Value)  (v2:Value)  (bx3:Nat)  (v4:Value)  (v5:Value)  (v6:Value)  (v7:Value)  (z8:mB)  (v9:Value)  (z10:pJ)  (v11:Value)  (z12:mB)  (v13:Value)  (z14:pJ) (r:Int) (h:cE U p0 p1=some r):
  aT Tryz.prog 57 #[vP bx0,v13] [bM bx0 [vS (p0.1.1),v1,v2,vP bx3,v11] 140,Sl aG v1 p0.1.2.1,Sl aE v2 p0.1.2.2,bM bx3 [vS (p0.2.1.1.1),v4,v5,v6,v7,vI (p0.2.1.2.2.1),v9] 178,Sl aG v4 p0.2.1.1.2.1,Sl aE v5 p0.2.1.1.2.2,Sl bD v6 p0.2.1.2.1.1,S2 aV v7 z8 p0.2.1.2.1.2,S2 bD v9 z10 p0.2.1.2.2.2,S2 aV v11 z12 p0.2.2,S2 bD v13 z14 p1] (fun x:Unit=>vU (r)) (fun x l=>l) (fun _ l=>l):=by
 refine aT.of Tryz.func57 rfl Tryz.ntmps57 rfl fun c=>?_
 refine sqR<|aF (aJ.box (cs:=[vP bx0]) rfl rfl) rfl fun b1=>bQ (Know.one (aC.sl (aC.fact 10 rfl))) fun ho3=>?_
 refine aF (aJ.box (cs:=[v13]) rfl (by rw[gK ho3])) rfl fun b2=>?_
 refine qkAsg rfl<|dtN<|sqR<|qkLd 1 rfl<|aB (bN rfl) rfl<|qkFld rfl<|aB (cV rfl (aC.fact 0 rfl) rfl rfl rfl) rfl<|aB (iM rfl (aC.fact 9 rfl) rfl) rfl<|aB (t_ (cs:=[.tmp 2,.tmp 3]) (vs:=[vP b1,vP b2]) rfl) rfl<|bnE h fun r4 w5 h=>aF (aJ.callQ Xg (JB U 87 [vP b1,vP b2] [bM b1 [vP bx0] 93,bM bx0 [vS (p0.1.1),v1,v2,vP bx3,v11] 140,Sl aG v1 p0.1.2.1,Sl aE v2 p0.1.2.2,bM bx3 [vS (p0.2.1.1.1),v4,v5,v6,v7,vI (p0.2.1.2.2.1),v9] 178,Sl aG v4 p0.2.1.1.2.1,Sl aE v5 p0.2.1.1.2.2,Sl bD v6 p0.2.1.2.1.1,S2 aV v7 z8 p0.2.1.2.1.2,S2 bD v9 z10 p0.2.1.2.2.2,S2 aV v11 z12 p0.2.2,bM b2 [v13] 36,S2 bD v13 z14 p1] Xh (fun y0 r h=>xE U b1 bx0 v1 v2 bx3 v4 v5 v6 v7 z8 v9 z10 v11 z12 b2 v13 z14 r h) r4 w5) rfl (aD.cons (aC.res 1 rfl) (aD.cons (aC.fact 0 rfl) (aD.cons (aC.fact 1 rfl) (aD.cons (aC.fact 2 rfl) (aD.cons (aC.fact 3 rfl) (aD.cons (aC.fact 4 rfl) (aD.cons (aC.fact 5 rfl) (aD.cons (aC.fact 6 rfl) (aD.cons (aC.fact 7 rfl) (aD.cons (aC.fact 8 rfl) (aD.cons (aC.fact 9 rfl) (aD.cons (aC.res 0 rfl) (oI [10] rfl)))))))))))))) rfl fun x6=>qkAsg rfl<|dtN<|aP ?_
 cases h
 exact tV rfl
end
end Go.Proofs.YtigggfnchamobaaGreatDoor
end
section
namespace Go.Proofs.YtigggfnchamobaaGreatDoor
open Go Go.Sx
section
abbrev RL:=E×List (Nat×E)
abbrev yL:=BC×GR×Int×aX
def DX (R:List RL):Lr:=R.map fun r=>(r.1.ts,r.2.map fun s=>((s.1:Int),s.2.ts))
def HP (nv:Nat) (e:E):Bool:=e.wf nv false&&decide (e.depth<=100)&&decide (e.ts.length<=800)
def uH (nv:Nat) (R:List RL):Bool:=decide (R.length<=20)&&R.all fun r=>HP nv r.1&&decide (r.2.length<=20)&&r.2.all fun s=>decide (s.1<nv)&&HP nv s.2
instance:Inhabited E:=⟨.lf 1 0⟩
def pG (S:yL) (c:aX) (v:Nat) (e:E):Int:=e.den (Wg (S,c,(v:Int),[])) (row S.2.1 v).length (-1)
def oO (S:yL) (R:List RL) (c:aX) (v:Nat):Int:=uD (R.map fun r=>pG S c v r.1)
def zI (kind:Int) (b:eZ) (x:Int):Int:=if b.1<=x∧x<=b.2 then x else if kind=3 then -1 else if x<b.1 then b.1 else b.2
def PQ (S:yL) (vars:List Fa) (c:aX) (v:Nat) (st:aL) (s:Nat×E):aL:=st.set s.1 (zI (at' vars (s.1:Int)).2.1 (wL S.2.1 vars v s.1) (pG S c v s.2))
def Aj (S:yL) (vars:List Fa) (R:List RL) (c:aX) (v:Nat) (i:Int):aL:=(at' R i).2.foldl (PQ S vars c v) (at' c (v:Int))
def UN (S:yL) (R:List RL) (c:aX):Nat:=xN (fun v=>decide (0<=oO S R c v)) S.2.1.2.length
def h_ (S:yL) (vars:List Fa) (R:List RL) (c:aX) (t:Nat):aX:=(List.range c.length).map fun v=>if t.testBit v=true then Aj S vars R c v (oO S R c v)else at' c (v:Int)
structure sX (g:GR) (nv:Nat) (c:aX):Prop where
 len:c.length=g.2.length
 row:∀v:Nat,v<g.2.length->(at' c (v:Int)).length=nv
theorem JG.shape {g:GR} {c:aX} {vars:List Fa} (h:JG g c vars):sX g vars.length c:=⟨h.len,h.row⟩
section
variable {S:yL} {nv:Nat} {c:List (List Int)} {v:Nat}
theorem wok (hV:VG S.2.1) (hc:sX S.2.1 nv c) (hv:v<S.2.1.2.length) (ts:List (Int×Int)):WOk (S,c,(v:Int),ts) nv S.2.1.2.length v:=by
 refine⟨rfl,hv,rfl,hV.len,hc.len,hc.row,fun u hu i hi=> ?_⟩
 obtain⟨w,h1,h2⟩:=hV.to hu hi
 show 0<=(gR (row S.2.1 u) i).1∧(gR (row S.2.1 u) i).1<_
 rw[h2];omega
theorem LA (hV:VG S.2.1) (hc:sX S.2.1 nv c) (hv:v<S.2.1.2.length) {e:E} (he:HP nv e=true):eJ 1000 S c (v:Int) e.ts=some (pG S c v e):=by
 simp only[HP,Bool.and_eq_true,decide_eq_true_eq]at he
 have h24:=hV.n24
 have hdeg:=(hV.node v hv).deg
 unfold eJ
 have:=Tw (wok hV hc hv e.ts) (deg:=(row S.2.1 v).length) rfl (by omega) he.2 e false 1000 0 (-1) [] [] (by simp) rfl he.1.1 (fun h=>by cases h) (by omega)
 rw[bB (show bL 1000 _ (0:Int) (-1)=_ from this)]
 rfl
end
section
variable {p:BC} {g:GR} {gr:Int} {bk:List (List Int)} {R:List RL} {nv:Nat} {c:List (List Int)} {v:Nat}
theorem Dl (hz:p.2.2.map wB=DX R):p.2.2.length=R.length:=by simpa [DX]using congrArg List.length hz
theorem Oe (hz:p.2.2.map wB=DX R) {i:Nat} (hi:i<R.length):wB (at' p.2.2 (i:Int))=((at' R (i:Int)).1.ts,(at' R (i:Int)).2.map fun s=>((s.1:Int),s.2.ts)):=by
 have hl:=Dl hz
 have:=congrArg (fun q=>q[i]?) hz
 simp only[DX,List.getElem?_map,List.getElem?_eq_getElem hi,List.getElem?_eq_getElem (show i<p.2.2.length by omega),Option.map_some,Option.some.injEq]at this
 rw[kD hi,kD (show i<p.2.2.length by omega)];exact this
theorem Oj (hR:uH nv R=true) {i:Nat} (hi:i<R.length):HP nv (at' R (i:Int)).1=true∧(at' R (i:Int)).2.length<=20∧∀s∈(at' R (i:Int)).2,s.1<nv∧HP nv s.2=true:=by
 simp only[uH,Bool.and_eq_true,List.all_eq_true,decide_eq_true_eq]at hR
 have:=hR.2 (at' R (i:Int)) (by rw[kD hi];exact List.getElem_mem hi)
 exact⟨this.1.1,this.1.2,fun s hs=>this.2 s hs⟩
theorem VC (hR:uH nv R=true):R.length<=20:=by
 simp only[uH,Bool.and_eq_true,decide_eq_true_eq]at hR
 exact hR.1
theorem RR (hV:VG g) (hc:sX g nv c) (hv:v<g.2.length) (hz:p.2.2.map wB=DX R) (hR:uH nv R=true) {i:Nat} (hi:i<R.length):iK 1000 (p,g,gr,bk) c (v:Int) (i:Int)=some (nz (pG (p,g,gr,bk) c v (at' R (i:Int)).1)):=by
 have hl:=Dl hz
 have e:(at' p.2.2 (i:Int)).2.1.2=(at' R (i:Int)).1.ts:=congrArg Prod.fst (Oe hz hi)
 unfold iK
 dsimp only
 rw[cL (by omega),e]
 rw[bB (show eJ 1000 _ c (v:Int) _=_ from LA (S:=(p,g,gr,bk)) hV hc hv (Oj hR hi).1)]
 rfl
theorem Ol (hV:VG g) (hc:sX g nv c) (hv:v<g.2.length) (hz:p.2.2.map wB=DX R) (hR:uH nv R=true) (tab:List (List (Int×Int))):dM 1000 (p,(p,g,gr,bk),tab) c (v:Int)=some (oO (p,g,gr,bk) R c v):=by
 have hl:=Dl hz
 have h20:=VC hR
 let l:=R.map fun r=>pG (p,g,gr,bk) c v r.1
 have hll:l.length=R.length:=by simp[l]
 have hat:∀i,i<R.length->at' l (i:Int)=pG (p,g,gr,bk) c v (at' R (i:Int)).1:=fun i hi=>by
  rw[kD (by omega),kD hi];simp[l]
 have stp:∀(k:Nat) ag,k<R.length->iI 1000 (p,(p,g,gr,bk),tab) c (v:Int) (k:Int) ag=if nz (at' l (k:Int))=true then some (k:Int)else ag (((k+1:Nat):Int)):=by
  intro k ag hk
  unfold iI
  dsimp only
  rw[if_pos (by omega),bB (show iK 1000 _ c (v:Int) (k:Int)=_ from RR hV hc hv hz hR hk),hat k hk,dU (by omega)]
 unfold dM oO
 by_cases hx:∃i,i<R.length∧at' l (i:Int)≠0
 ·obtain⟨i,hi,h0⟩:=hx
  obtain⟨m,h1,h2,h3⟩:=HW (p:=fun i=>at' l (i:Int)≠0) i h0
  have h3:∀j,j<m->at' l (j:Int)=0:=fun j hj=>Decidable.not_not.1 (h3 j hj)
  rw[show uD _=(m:Int)from xL (l:=l) (by omega) h2 h3]
  exact dR (K:=some (m:Int)) m (fun k=>(k:Int)) (fun k ag hk=>by rw[stp k ag (by omega),if_neg (by simp[nz,h3 k hk])]) (fun ag=>by rw[stp m ag (by omega),if_pos (by simpa [nz]using h2)]) 1000 (by omega)
 ·have hx:∀j,j<l.length->at' l (j:Int)=0:=fun j hj=>Decidable.not_not.1 fun e=>hx ⟨j,by omega,e⟩
  rw[show uD _=(-1:Int)from xK (l:=l) hx]
  exact dR (K:=some (-1)) R.length (fun k=>(k:Int)) (fun k ag hk=>by rw[stp k ag hk,if_neg (by simp[nz,hx k (by omega)])]) (fun ag=>by
   unfold iI lF
   dsimp only
   rw[if_neg (by omega)]) 1000 (by omega)
theorem GG (S:yL) (R:List RL) (c:List (List Int)) (v:Nat):oO S R c v = -1∨∃i:Nat,oO S R c v=(i:Int)∧i<R.length∧pG S c v (at' R (i:Int)).1≠0:=by
 let l:=R.map fun r=>pG S c v r.1
 by_cases hx:∃i,i<l.length∧at' l (i:Int)≠0
 ·obtain⟨i,hi,h0⟩:=hx
  obtain⟨m,h1,h2,h3⟩:=HW (p:=fun i=>at' l (i:Int)≠0) i h0
  have h3:∀j,j<m->at' l (j:Int)=0:=fun j hj=>Decidable.not_not.1 (h3 j hj)
  have hm:m<R.length:=by simp[l]at hi;omega
  refine .inr ⟨m,xL (l:=l) (by omega) h2 h3,hm,?_⟩
  have:at' l (m:Int)=pG S c v (at' R (m:Int)).1:=by rw[kD (by simpa [l]using hm),kD hm];simp[l]
  rw[<-this];exact h2
 ·exact .inl (xK (l:=l) fun j hj=>Decidable.not_not.1 fun e=>hx ⟨j,hj,e⟩)
theorem GI {S:yL} {R:List RL} {c:List (List Int)} {v:Nat}:oO S R c v = -1↔∀i:Nat,i<R.length->pG S c v (at' R (i:Int)).1=0:=by
 let l:=R.map fun r=>pG S c v r.1
 have hat:∀i,i<R.length->at' l (i:Int)=pG S c v (at' R (i:Int)).1:=fun i hi=>by rw[kD (by simpa [l]using hi),kD hi];simp[l]
 constructor
 ·intro h i hi
  refine Decidable.not_not.1 fun e=> ?_
  obtain⟨m,h1,h2,h3⟩:=HW (p:=fun i=>at' l (i:Int)≠0) i (by rw[hat i hi];exact e)
  have h3:∀j,j<m->at' l (j:Int)=0:=fun j hj=>Decidable.not_not.1 (h3 j hj)
  have:oO S R c v=(m:Int):=xL (l:=l) (by simp[l];omega) h2 h3
  omega
 ·intro h
  exact xK (l:=l) fun j hj=>by rw[hat j (by simpa [l]using hj)];exact h j (by simpa [l]using hj)
theorem Ge (hV:VG g) (hc:sX g nv c) (hz:p.2.2.map wB=DX R) (hR:uH nv R=true) {tab:List (List (Int×Int))} (ht:tab.length=g.2.length):cE 1000 (p,(p,g,gr,bk),tab) c=some ((UN (p,g,gr,bk) R c:Nat):Int):=by
 have h24:=hV.n24
 unfold cE wG
 let q:Nat->Bool:=fun v=>decide (0<=oO (p,g,gr,bk) R c v)
 have:=dR (step:=oW (tab.length:Int) (fun y0=>iD 1000 y0 (p,(p,g,gr,bk),tab) c)) (K:=some ((xN q g.2.length:Nat):Int)) g.2.length (fun k=>(((xN q k:Nat):Int),(k:Int))) (fun k ag hk=>by
  have hm:=NY q (k:=k) (by omega)
  unfold oW rJ iD
  dsimp only
  rw[if_pos (by omega),bB (show Option.bind (dM 1000 _ c (k:Int)) _=some (q k) by rw[bB (show dM 1000 _ c (k:Int)=_ from Ol hV hc hk hz hR tab)]),dU (by omega)]
  cases hq:q k with
  |true=>
   rw[if_pos rfl,cL (by omega),Mi hm (by omega)]
   simp only[xN,hq,if_true]
  |false=>
   rw[if_neg (by decide)]
   simp only[xN,hq];rfl) (fun ag=>by
  unfold oW uP
  dsimp only
  rw[if_neg (by omega)]) 1000 (by omega)
 rw[bB (show bE _ 1000 ((0:Int),(0:Int))=_ from this)]
 rfl
end
end
section
theorem Rb (f:Nat) (k:Int) (b:eZ) (x:Int):tH f k b x=some (zI k b x):=by
 unfold tH rR zI
 by_cases h1:b.1<=x
 ·by_cases h2:x<=b.2
  ·simp only[h1,h2,and_self,if_true,decide_true]
  ·simp only[h1,h2,and_false,if_true,if_false,decide_false,Bool.false_eq_true]
   split
   ·rfl
   ·split<;>rfl
 ·simp only[h1,false_and,if_false,Bool.false_eq_true]
  split
  ·rfl
  ·split<;>rfl
theorem Lk {S:yL} {vars:List Fa} {c:aX} {v:Nat} (l:List (Nat×E)) (st:aL):(l.foldl (PQ S vars c v) st).length=st.length:=by
 induction l generalizing st with
 |nil=>rfl
 |cons s l ih=>rw[List.foldl_cons,ih];simp[PQ]
theorem H_ {S:yL} {vars:List Fa} {R:List RL} {c:aX} {v:Nat} {i:Int}:(Aj S vars R c v i).length=(at' c (v:Int)).length:=Lk _ _
section
variable {p:BC} {g:GR} {gr:Int} {bk:List (List Int)} {R:List RL} {c:List (List Int)} {v:Nat}
theorem Vr (hV:VG g) (hp:zE g p.2.1) (hc:sX g p.2.1.length c) (hv:v<g.2.length) (hz:p.2.2.map wB=DX R) (hR:uH p.2.1.length R=true) {i:Nat} (hi:i<R.length):
  jH 1000 (p,(p,g,gr,bk),yD g p.2.1) c (v:Int) (i:Int)=some (Aj (p,g,gr,bk) p.2.1 R c v (i:Int)):=by
 have h24:=hV.n24
 have hcl:=hc.len
 have hrow:=hc.row v hv
 have hvl:=hp.len
 have hl:=Dl hz
 have hpa:=Oe hz hi
 obtain⟨-,hs20,hsets⟩:=Oj hR hi
 have htab:(yD g p.2.1).length=g.2.length:=by simp[yD]
 have htv:at' (yD g p.2.1) (v:Int)=BG g p.2.1 v:=AQ _ hv
 have hrt:(BG g p.2.1 v).length=p.2.1.length:=by simp[BG]
 have e2:(at' p.2.2 (i:Int)).2.2.2.map (fun s=>(s.1,s.2.2))=(at' R (i:Int)).2.map fun s=>((s.1:Int),s.2.ts):=congrArg Prod.snd hpa
 have hsl:(at' p.2.2 (i:Int)).2.2.2.length=(at' R (i:Int)).2.length:=by simpa using congrArg List.length e2
 unfold jH
 dsimp only
 rw[cL (by omega),cL (by simp;omega),cL (by omega),List.nil_append]
 unfold Aj
 let sets:=(at' R (i:Int)).2
 have:=dR (step:=iH 1000 (p,(p,g,gr,bk),yD g p.2.1) c (v:Int) (i:Int)) (K:=some (sets.foldl (PQ (p,g,gr,bk) p.2.1 c v) (at' c (v:Int)))) sets.length (fun k=>((k:Int),(sets.take k).foldl (PQ (p,g,gr,bk) p.2.1 c v) (at' c (v:Int)))) (fun k ag hk=>by
  have hk2:k<(at' p.2.2 (i:Int)).2.2.2.length:=by rw[hsl];exact hk
  have ek:((at' (at' p.2.2 (i:Int)).2.2.2 (k:Int)).1,(at' (at' p.2.2 (i:Int)).2.2.2 (k:Int)).2.2)=(((at' sets (k:Int)).1:Int),(at' sets (k:Int)).2.ts):=by
   have:=congrArg (fun q=>q[k]?) e2
   simp only[List.getElem?_map,List.getElem?_eq_getElem hk2,List.getElem?_eq_getElem (show k<(at' R (i:Int)).2.length from hk),Option.map_some,Option.some.injEq]at this
   rw[kD hk2,kD hk];exact this
  have ek1:=congrArg Prod.fst ek
  have ek2:=congrArg Prod.snd ek
  dsimp only at ek1 ek2
  obtain⟨hs1,hs2⟩:=hsets (at' sets (k:Int)) (by rw[kD hk];exact List.getElem_mem hk)
  have hstl:((sets.take k).foldl (PQ (p,g,gr,bk) p.2.1 c v) (at' c (v:Int))).length=p.2.1.length:=by rw[Lk,hrow]
  have hcell:at' (BG g p.2.1 v) ((at' sets (k:Int)).1:Int)=wL g p.2.1 v (at' sets (k:Int)).1:=AQ _ hs1
  have hsk:sets.length<=20:=hs20
  unfold iH
  dsimp only
  rw[if_pos (by omega),cL (by omega),ek1,ek2,bB (show eJ 1000 _ c (v:Int) _=_ from LA (S:=(p,g,gr,bk)) hV hc hv hs2),cL (by omega),cL (by omega),htv,cL (by omega),hcell,bB (Rb 1000 _ _ _),cL (by omega),dU (by omega),Int.toNat_natCast,En hk,List.foldl_append]
  rfl) (fun ag=>by
  unfold iH lE
  dsimp only
  rw[if_neg (by show¬(sets.length:Int)<_;rw[hsl];exact Int.lt_irrefl _),List.take_length]) 1000 (by show(at' R (i:Int)).2.length<1000;omega)
 exact this
theorem VI (hV:VG g) (hp:zE g p.2.1) (hc:sX g p.2.1.length c) (hz:p.2.2.map wB=DX R) (hR:uH p.2.1.length R=true) {t:Nat} (ht32:t<4294967296) (ht:∀v,t.testBit v=true->0<=oO (p,g,gr,bk) R c v):
  gE 1000 (p,(p,g,gr,bk),yD g p.2.1) c (t:Int)=some (h_ (p,g,gr,bk) p.2.1 R c t):=by
 have h24:=hV.n24
 have hcl:=hc.len
 have hvl:=hp.len
 unfold gE
 rw[bB (NG c (by omega) (fun v hv=>by rw[hc.row v (by omega)];omega))]
 let f:Nat->List Int:=fun v=>if t.testBit v=true then Aj (p,g,gr,bk) p.2.1 R c v (oO (p,g,gr,bk) R c v)else at' c (v:Int)
 let Q:Nat->List (List Int):=fun k=>(List.range k).map f++c.drop k
 have hQ:∀k,k<=c.length->(Q k).length=c.length:=fun k hk=>by simp[Q];omega
 have hset:∀k,k<c.length->(Q k).set k (f k)=Q (k+1):=fun k hk=>by
  show((List.range k).map f++c.drop k).set k (f k)=(List.range (k+1)).map f++c.drop (k+1)
  rw[List.set_append_right _ _ (by simp),List.length_map,List.length_range,Nat.sub_self,List.drop_eq_getElem_cons hk,List.set_cons_zero,List.range_succ,List.map_append,List.map_singleton,List.append_assoc]
  rfl
 have hkeep:∀k,k<c.length->f k=at' c (k:Int)->Q k=Q (k+1):=fun k hk hf=>by
  show(List.range k).map f++c.drop k=(List.range (k+1)).map f++c.drop (k+1)
  rw[List.range_succ,List.drop_eq_getElem_cons hk,List.map_append,List.map_singleton,hf,kD hk]
  simp
 rw[show c=Q 0 by simp[Q]]
 refine dR (step:=fP 1000 (p,(p,g,gr,bk),yD g p.2.1) (Q 0) (t:Int)) (K:=some (h_ (p,g,gr,bk) p.2.1 R (Q 0) t)) c.length (fun k=>((k:Int),Q k)) (fun k ag hk=> ?_) (fun ag=> ?_) 1000 (by omega)
 ·rw[show Q 0=c by simp[Q]]
  unfold fP iJ
  dsimp only
  rw[if_pos (by omega),cL (by omega),dU (by omega)]
  by_cases hb:t.testBit k=true
  ·obtain⟨i,hi,hil,_⟩:=(GG (p,g,gr,bk) R c k).resolve_left (fun e=>by have:=ht k hb;omega)
   rw[if_pos ((I_ (by omega) ht32).2 hb),bB (show dM 1000 _ c (k:Int)=_ from Ol hV hc (by omega) hz hR _),hi,bB (show jH 1000 _ c (k:Int) (i:Int)=_ from Vr hV hp hc (by omega) hz hR hil),cL (by rw[hQ k (by omega)];omega),Int.toNat_natCast]
   have:Aj (p,g,gr,bk) p.2.1 R c k (i:Int)=f k:=by simp only[f];rw[if_pos hb,hi]
   rw[this,hset k hk]
  ·rw[if_neg (fun q=>hb ((I_ (by omega) ht32).1 q)),hkeep k hk (by simp only[f];rw[if_neg hb])]
 ·rw[show Q 0=c by simp[Q]]
  unfold fP lG
  dsimp only
  rw[if_neg (by omega)]
  simp[Q,h_,f]
theorem Ii {S:yL} {vars:List Fa} {t:Nat}:(h_ S vars R c t).length=c.length:=by simp[h_]
theorem Ll {S:yL} {vars:List Fa} {t:Nat} (hv:v<c.length):at' (h_ S vars R c t) (v:Int)=if t.testBit v=true then Aj S vars R c v (oO S R c v)else at' c (v:Int):=AQ _ hv
theorem sX.step {S:yL} {vars:List Fa} {t:Nat} {nv:Nat} {g:GR} (hc:sX g nv c):sX g nv (h_ S vars R c t):=⟨by rw[Ii,hc.len],fun v hv=>by
 rw[Ll (by rw[hc.len];exact hv)]
 split
 ·rw[H_,hc.row v hv]
 ·exact hc.row v hv⟩
end
end
end Go.Proofs.YtigggfnchamobaaGreatDoor
end
section
namespace Go.Proofs.YtigggfnchamobaaGreatDoor
open Go.Sx
section
def oE  (a2:Bool):Option (Bool):=
 some (a2)
def tG (U:Nat) (p0:Int):Option (Bool):=
 if(1:Int)<=p0 then(oE  (decide (p0<=(4:Int))))else(oE  (false))
theorem Xd:aO Tryz.prog 79:=Tryz.call79
theorem GM (U:Nat) {p0:Int} (r:Bool) (h:tG U p0=some r):
  aT Tryz.prog 79 #[vI (p0)] [] (fun x:Unit=>vB (r)) (fun x l=>l) (fun _ l=>l):=by
 refine aT.of Tryz.func79 rfl Tryz.ntmps79 rfl fun c=>?_
 refine sqR<|qkAsg rfl<|dtN<|aI<|midU (fun a2=>oE  a2=some r) (fun a2 b3=>[(2,vB (a2))]) (fun a2 b3=>[]) ?_ ?_
 ·refine aM<|qkMove rfl<|aB (FM rfl rfl) rfl<|qkMove rfl ?_
  refine Cv h rfl (fun _ h=>?_) fun _ h=>?_
  ·refine gyMove rfl<|aR rfl (yM rfl rfl) rfl<|qkPkT rfl<|qkAsg rfl<|dtN ?_
   exact jV (decide (p0<=(4:Int))) () h SF rfl
  refine gdSkip rfl<|gdSkip rfl<|qkPkF rfl<|qkAsg rfl<|dtN ?_
  exact jV (false) () h SF rfl
 intro a2 b3 h
 unfold oE at h
 refine aP ?_
 cases h
 exact lI rfl
end
section
def vC (U:Nat) (p0:rO) (p1:cM) (p2:Int) (p3:aX) (p4:Int):Option (Int):=
 Option.bind (kY U ((p0.1,p0.2.1,p0.2.2)) ((p1.1,p1.2)) p3) fun r3=>(if r3≠(0:Int)then(some (r3))else(Option.bind (tG U p2) fun r7=>(if(!r7)=true then(some (12:Int))else(if(4096:Int)<p4 then(some (3:Int))else(some (0:Int))))))
theorem WY:aO Tryz.prog 51:=Tryz.call51
theorem Lo (U:Nat) {p0:rO} {p1:cM} {p2:Int} {p3:aX} {p4:Int} (v0:Value)  (v1:Value)  (v2:Value)  (v3:Value)  (z4:mB)  (v5:Value)  (z6:pJ) (r:Int) (h:vC U p0 p1 p2 p3 p4=some r):
  aT Tryz.prog 51 #[Value.agg #[vS (p0.1),v0,v1],Value.agg #[v2,v3],vI (p2),v5,vI (p4)] [Sl aG v0 p0.2.1,Sl aE v1 p0.2.2,PF (Value.agg #[vS p0.1,v0,v1]),Sl bD v2 p1.1,S2 aV v3 z4 p1.2,S2 bD v5 z6 p3] (fun x:Unit=>vI (r)) (fun x l=>l) (fun _ l=>l):=by
 refine aT.of Tryz.func51 rfl Tryz.ntmps51 rfl fun c=>?_
 refine sqR<|aF (aJ.box (cs:=[vS (p0.1),v0,v1]) rfl rfl) rfl fun b1=>aF (aJ.box (cs:=[v2,v3]) rfl rfl) rfl fun b2=>qkAsg rfl<|dtN<|aI<|sqR<|qkLdA 1 rfl<|qkLdA 0 rfl<|qkMove rfl<|bnE h fun r3 w4 h=>aF (aJ.callQ QZ (AZ U v0 v1 v2 v3 z4 v5 z6 r3 w4) rfl (oI [0,1,2,3,4,5] rfl)) rfl fun x5=>qkAsg rfl<|dtN<|sqR<|qkMove rfl<|qkNeq rfl<|dtN ?_
 refine eB h rfl (fun h=>?_) fun h=>?_
 ·refine sqR<|qkMove rfl<|qkAsg rfl<|dtN<|aP<|aH ?_
  cases h
  exact tV rfl
 refine cI<|aI<|sqR<|qkMove rfl<|bnE h fun r7 w8 h=>aF (aJ.callQ Xd (GM U  r7 w8) rfl .nil) rfl fun x9=>aB (qL rfl) rfl<|dtN ?_
 refine As h rfl (fun _ h=>?_) fun _ h=>?_
 ·refine sqR<|qkAsg rfl<|dtN<|aP<|aH ?_
  cases h
  exact tV rfl
 refine cI<|aI<|sqR<|qkMove rfl<|aB (uX rfl rfl) rfl<|dtN ?_
 refine eB h rfl (fun h=>?_) fun h=>?_
 ·refine sqR<|qkAsg rfl<|dtN<|aP<|aH ?_
  cases h
  exact tV rfl
 refine cI<|sqR<|qkAsg rfl<|dtN<|aP ?_
 cases h
 exact tV rfl
end
section
def qI (U:Nat) (p0:aX) (p1:Int) (p2:BX):Option (Unit):=
 some (())
theorem QY:aO Tryz.prog 53:=Tryz.call53
theorem Dy (U:Nat) {p0:aX} {p1:Int} {p2:BX} (v0:Value)  (z1:pJ) (r:Unit) (h:qI U p0 p1 p2=some r):
  aT Tryz.prog 53 #[v0,vU (p1),Value.agg #[vI (p2.1),vI (p2.2.1),vI (p2.2.2.1),vI (p2.2.2.2.1),vU (p2.2.2.2.2)]] [S2 bD v0 z1 p0] (fun x:Unit=>Value.tuple #[]) (fun x l=>l) (fun _ l=>l):=by
 refine aT.of Tryz.func53 rfl Tryz.ntmps53 rfl fun c=>?_
 unfold qI at h
 refine aM<|aF (aJ.box (cs:=[vI (p2.1),vI (p2.2.1),vI (p2.2.2.1),vI (p2.2.2.2.1),vU (p2.2.2.2.2)]) rfl rfl) rfl fun b1=>dY ?_
 cases h
 exact Bf () rfl rfl .normal (.inr rfl) .nil aD.nil
end
section
def rX (U:Nat) (p0:Int):Option ((Int×Int×Int×Int×Int)):=
 some (((0:Int),(0:Int),(0:Int),(0:Int),(cS .u32 p0 (16777215:Int))))
theorem Uj:aO Tryz.prog 111:=Tryz.call111
theorem EN (U:Nat) {p0:Int} (r:(Int×Int×Int×Int×Int)) (h:rX U p0=some r):
  aT Tryz.prog 111 #[vU (p0)] [] (fun x:Unit=>Value.agg #[vI (r.1),vI (r.2.1),vI (r.2.2.1),vI (r.2.2.2.1),vU (r.2.2.2.2)]) (fun x l=>l) (fun _ l=>l):=by
 refine aT.of Tryz.func111 rfl Tryz.ntmps111 rfl fun c=>?_
 unfold rX at h
 refine sqR<|aF (aJ.alloc (cs:=Tm) rfl rfl) rfl fun b1=>dtN<|sqR<|qkMove rfl<|qkAnd rfl ?_
 refine aB (QI (r:=Value.agg #[vI (0:Int),vI (0:Int),vI (0:Int),vI (0:Int),vU (cS .u32 p0 (16777215:Int))]) rfl (by intro w;simp[Instr.build,Instr.fill,dA,cN,cF,dB,dC,cO,d_])) rfl ?_
 refine bH 0 (vs:=[vI (0:Int),vI (0:Int),vI (0:Int),vI (0:Int),vU (cS .u32 p0 (16777215:Int))]) rfl rfl rfl rfl rfl rfl<|dtN<|aP ?_
 cases h
 exact fS () rfl rfl (RV.cell 0 rfl rfl rfl rfl) .nil aD.nil
end
section
def jX  (a1:Unit):Option (Bool):=
 some (true)
def fM (p0:aL) (a5:Int) (ag4:(Int)->Option (Bool)):Option (Bool):=
 if a5<(List.length p0:Int)then(ck (0<=a5∧a5<(List.length p0:Int)) (if(qB .u32 (at' p0 a5) (16777215:Int))≠(0:Int)then(some (false))else(ag4 (wI .i64 (a5+(1:Int))))))else(jX  (()))
def eX (U:Nat) (p0:aL):Option (Bool):=
 bE (fM p0) U (0:Int)
theorem Nx:aO Tryz.prog 136:=Tryz.call136
theorem wY (U:Nat) {p0:aL} (v0:Value) (r:Bool) (h:eX U p0=some r):
  aT Tryz.prog 136 #[v0] [Sl yK v0 p0] (fun x:Unit=>vB (r)) (fun x l=>l) (fun _ l=>l):=by
 refine aT.of Tryz.func136 rfl Tryz.ntmps136 rfl fun c=>?_
 unfold eX at h
 refine sqR<|qkAsg rfl<|dtN<|aI<|midU (fun a1=>jX  a1=some r) (fun a1 b2=>[]) (fun a1 b2=>[]) ?_ ?_
 ·refine sqR<|qkMove rfl<|qkLen (aC.fact 0 rfl) rfl<|qkMove rfl<|dtN<|aN<|loopL (fM p0) (fun a5 b6=>[(5,v0),(6,vI (List.length p0:Int)),(7,vI (a5))]) (fun a5 b6=>[]) (0:Int) () h SF (aQ.refl _) ?_
  intro k7 a5 b6 h
  refine sqR<|qkLss rfl<|dtN<|aI ?_
  refine eB h rfl (fun h=>?_) fun h=>?_
  ·refine cI<|aI<|aN<|sqR<|ckE h fun j9 h=>aB (aY rfl rfl (aC.fact 0 rfl) rfl rfl j9) rfl<|aB (bT rfl (aC.fact 0 rfl) rfl rfl rfl DL j9) rfl<|qkAsg rfl<|dtN<|sqR<|qkMove rfl<|aB (CP rfl rfl) rfl<|qkNeq rfl<|dtN ?_
   refine eB h rfl (fun h=>?_) fun h=>?_
   ·refine sqR<|qkAsg rfl<|dtN<|aP<|bK<|aH<|aH<|bK<|aH ?_
    cases h
    exact lI rfl
   refine cU<|inT<|aM<|qkAdd rfl<|qkMove rfl<|dtN ?_
   exact yF (wI .i64 (a5+(1:Int))) () h SF rfl
  refine vT ?_
  exact jV () (()) h SF rfl
 intro a1 b2 h
 unfold jX at h
 refine sqR<|qkAsg rfl<|dtN<|aP ?_
 cases h
 exact lI rfl
end
section
def iO  (a8:Bool):Option (Bool):=
 some (a8)
def fD (U:Nat) (p0:BX) (a3:Bool):Option (Bool):=
 if a3=true then(some (false))else(if(wI .i64 (p0.2.2.1+(1:Int)))<p0.2.2.2.1 then(some (false))else(if p0.1<=p0.2.1 then(if p0.2.1<=(wI .i64 ((24:Int)*p0.1))then(Option.bind (eX U ([p0.2.2.2.2])) fun r13=>(iO  (r13)))else(iO  (false)))else(iO  (false))))
def gZ (U:Nat) (p0:BX):Option (Bool):=
 if p0.1<(0:Int)then(fD U p0 (true))else(if(4096:Int)<p0.1 then(fD U p0 (true))else(if p0.2.2.1<(0:Int)then(fD U p0 (true))else(if p0.2.2.2.1<p0.2.2.1 then(fD U p0 (true))else(fD U p0 (decide (p0.1<p0.2.2.2.1))))))
theorem Us:aO Tryz.prog 135:=Tryz.call135
theorem EO (U:Nat) {p0:BX} (r:Bool) (h:gZ U p0=some r):
  aT Tryz.prog 135 #[Value.agg #[vI (p0.1),vI (p0.2.1),vI (p0.2.2.1),vI (p0.2.2.2.1),vU (p0.2.2.2.2)]] [] (fun x:Unit=>vB (r)) (fun x l=>l) (fun _ l=>l):=by
 refine aT.of Tryz.func135 rfl Tryz.ntmps135 rfl fun c=>?_
 refine sqR<|aF (aJ.box (cs:=[vI (p0.1),vI (p0.2.1),vI (p0.2.2.1),vI (p0.2.2.2.1),vU (p0.2.2.2.2)]) rfl rfl) rfl fun b1=>qkAsg rfl<|dtN<|aI<|aI<|midU (fun a3=>fD U p0 a3=some r) (fun a3 b4=>[(1,vP b1),(29,vB (a3))]) (fun a3 b4=>[bM b1 [vI (p0.1),vI (p0.2.1),vI (p0.2.2.1),vI (p0.2.2.2.1),vU (p0.2.2.2.2)] 42]) ?_ ?_
 ·refine aM<|qkFld rfl<|qkLd 0 rfl<|qkLss rfl<|qkMove rfl ?_
  refine Cv h rfl (fun _ h=>?_) fun _ h=>?_
  ·refine gdSkip rfl<|gdSkip rfl<|gdSkip rfl<|qkPkT rfl<|qkMove rfl<|gdSkip rfl<|gdSkip rfl<|gdSkip rfl<|qkPkT rfl<|qkMove rfl<|gdSkip rfl<|gdSkip rfl<|gdSkip rfl<|gdSkip rfl<|gdSkip rfl<|qkPkT rfl<|qkMove rfl<|gdSkip rfl<|gdSkip rfl<|gdSkip rfl<|gdSkip rfl<|gdSkip rfl<|qkPkT rfl<|dtN ?_
   exact jV (true) () h SF rfl
  refine aR rfl (c_ rfl rfl rfl rfl rfl) rfl<|aR rfl (dX 0 rfl rfl rfl rfl rfl) rfl<|aR rfl (uX rfl rfl) rfl<|qkPkF rfl<|qkMove rfl ?_
  refine Cv h rfl (fun _ h=>?_) fun _ h=>?_
  ·refine gdSkip rfl<|gdSkip rfl<|gdSkip rfl<|qkPkT rfl<|qkMove rfl<|gdSkip rfl<|gdSkip rfl<|gdSkip rfl<|gdSkip rfl<|gdSkip rfl<|qkPkT rfl<|qkMove rfl<|gdSkip rfl<|gdSkip rfl<|gdSkip rfl<|gdSkip rfl<|gdSkip rfl<|qkPkT rfl<|dtN ?_
   exact jV (true) () h SF rfl
  refine aR rfl (c_ rfl rfl rfl rfl rfl) rfl<|aR rfl (dX 0 rfl rfl rfl rfl rfl) rfl<|aR rfl (Kn rfl rfl) rfl<|qkPkF rfl<|qkMove rfl ?_
  refine Cv h rfl (fun _ h=>?_) fun _ h=>?_
  ·refine gdSkip rfl<|gdSkip rfl<|gdSkip rfl<|gdSkip rfl<|gdSkip rfl<|qkPkT rfl<|qkMove rfl<|gdSkip rfl<|gdSkip rfl<|gdSkip rfl<|gdSkip rfl<|gdSkip rfl<|qkPkT rfl<|dtN ?_
   exact jV (true) () h SF rfl
  refine aR rfl (c_ rfl rfl rfl rfl rfl) rfl<|aR rfl (dX 0 rfl rfl rfl rfl rfl) rfl<|aR rfl (c_ rfl rfl rfl rfl rfl) rfl<|aR rfl (dX 0 rfl rfl rfl rfl rfl) rfl<|aR rfl (uX rfl rfl) rfl<|qkPkF rfl<|qkMove rfl ?_
  refine Cv h rfl (fun _ h=>?_) fun _ h=>?_
  ·refine gdSkip rfl<|gdSkip rfl<|gdSkip rfl<|gdSkip rfl<|gdSkip rfl<|qkPkT rfl<|dtN ?_
   exact jV (true) () h SF rfl
  refine aR rfl (c_ rfl rfl rfl rfl rfl) rfl<|aR rfl (dX 0 rfl rfl rfl rfl rfl) rfl<|aR rfl (c_ rfl rfl rfl rfl rfl) rfl<|aR rfl (dX 0 rfl rfl rfl rfl rfl) rfl<|aR rfl (uX rfl rfl) rfl<|qkPkF rfl<|dtN ?_
  exact jV (decide (p0.1<p0.2.2.2.1)) () h SF rfl
 intro a3 b4 h
 refine As h rfl (fun _ h=>?_) fun _ h=>?_
 ·refine sqR<|qkAsg rfl<|dtN<|aP<|aH ?_
  cases h
  exact tV rfl
 refine cI<|aI<|sqR<|qkFld rfl<|qkLd 0 rfl<|qkFld rfl<|qkLd 0 rfl<|qkAdd rfl<|aB (uX rfl rfl) rfl<|dtN ?_
 refine eB h rfl (fun h=>?_) fun h=>?_
 ·refine sqR<|qkAsg rfl<|dtN<|aP<|aH ?_
  cases h
  exact tV rfl
 refine cI<|aI<|midU (fun a8=>iO  a8=some r) (fun a8 b9=>[(2,vB (a8))]) (fun a8 b9=>[]) ?_ ?_
 ·refine aM<|qkFld rfl<|qkLd 0 rfl<|qkFld rfl<|qkLd 0 rfl<|aB (yM rfl rfl) rfl<|qkMove rfl ?_
  refine Cv h rfl (fun _ h=>?_) fun _ h=>?_
  ·refine aR rfl (c_ rfl rfl rfl rfl rfl) rfl<|aR rfl (dX 0 rfl rfl rfl rfl rfl) rfl<|aR rfl (c_ rfl rfl rfl rfl rfl) rfl<|aR rfl (dX 0 rfl rfl rfl rfl rfl) rfl<|aR rfl (zG rfl rfl) rfl<|aR rfl (yM rfl rfl) rfl<|qkPkT rfl<|qkMove rfl ?_
   refine Cv h rfl (fun _ h=>?_) fun _ h=>?_
   ·refine aR rfl (c_ rfl rfl rfl rfl rfl) rfl<|aR rfl (dX 0 rfl rfl rfl rfl rfl) rfl<|sV rfl (bX (e:=jL) ([p0.2.2.2.2]) [(0,vU (p0.2.2.2.2))] rfl rfl rfl rfl (lX (vU (p0.2.2.2.2)) rfl) rfl rfl rfl) rfl fun u12=>bnE h fun r13 w14 h=>sV rfl (aJ.callQ Nx (wY U u12 r13 w14) rfl (aD.cons (aU (aC.res 0 rfl) nQ) .nil)) rfl fun x15=>qkPkT rfl<|qkAsg rfl<|dtN ?_
    exact bY (r13) () h SF .nil (aD.refl _ _)
   refine gdSkip rfl<|gdSkip rfl<|gdSkip rfl<|gdSkip rfl<|qkPkF rfl<|qkAsg rfl<|dtN ?_
   exact bY (false) () h SF .nil (aD.refl _ _)
  refine gdSkip rfl<|gdSkip rfl<|gdSkip rfl<|gdSkip rfl<|gdSkip rfl<|gdSkip rfl<|qkPkF rfl<|qkMove rfl<|gdSkip rfl<|gdSkip rfl<|gdSkip rfl<|gdSkip rfl<|qkPkF rfl<|qkAsg rfl<|dtN ?_
  exact bY (false) () h SF .nil (aD.refl _ _)
 intro a8 b9 h
 unfold iO at h
 refine aP ?_
 cases h
 exact lI rfl
end
section
def iW (U:Nat) (p0:Int):Option (Int):=
 ck (0<=(24:Int)) (ck (0<=(nU .u32 p0 (24:Int))∧(nU .u32 p0 (24:Int))<(List.length Fe:Int)) (ck (0<=(16:Int)) (ck (0<=(cS .u32 (nU .u32 p0 (16:Int)) (255:Int))∧(cS .u32 (nU .u32 p0 (16:Int)) (255:Int))<(List.length Fe:Int)) (ck (0<=(8:Int)) (ck (0<=(cS .u32 (nU .u32 p0 (8:Int)) (255:Int))∧(cS .u32 (nU .u32 p0 (8:Int)) (255:Int))<(List.length Fe:Int)) (ck (0<=(cS .u32 p0 (255:Int))∧(cS .u32 p0 (255:Int))<(List.length Fe:Int)) (some (wI .i64 (wI .u8 ((wI .u8 ((wI .u8 ((at' Fe (nU .u32 p0 (24:Int)))+(at' Fe (cS .u32 (nU .u32 p0 (16:Int)) (255:Int)))))+(at' Fe (cS .u32 (nU .u32 p0 (8:Int)) (255:Int)))))+(at' Fe (cS .u32 p0 (255:Int)))))))))))))
theorem Ut:aO Tryz.prog 137:=Tryz.call137
theorem Cp (U:Nat) {p0:Int} (r:Int) (h:iW U p0=some r):
  aT Tryz.prog 137 #[vU (p0)] [] (fun x:Unit=>vI (r)) (fun x l=>l) (fun _ l=>l):=by
 refine aT.of Tryz.func137 rfl Tryz.ntmps137 rfl fun c=>?_
 refine sqR<|qkAsg rfl<|dtN<|aI ?_
 refine JR.start [0,1,3,0,8,24,56,127,0,256,768,1792,4095,0,8192,24576,65535,131071,262143] 16 mixedOrders (by decide +kernel) ?_
 refine JR.open (by exact rfl) ?_
 refine jkMove rfl<|ckE h fun j1 h=>jqN rfl (CQ rfl rfl j1)<|ckE h fun j2 h=>jqN rfl (zF rfl rfl rfl IR j2)<|jkMove rfl<|ckE h fun j3 h=>jqN rfl (CQ rfl rfl j3)<|jqN rfl (Kk rfl rfl)<|ckE h fun j4 h=>jqN rfl (zF rfl rfl rfl IR j4)<|jqN rfl (pQ rfl rfl)<|jkMove rfl<|ckE h fun j5 h=>jqN rfl (CQ rfl rfl j5)<|jqN rfl (Kk rfl rfl)<|ckE h fun j6 h=>jqN rfl (zF rfl rfl rfl IR j6)<|jqN rfl (pQ rfl rfl)<|jkMove rfl<|jqN rfl (Kk rfl rfl)<|ckE h fun j7 h=>jqN rfl (zF rfl rfl rfl IR j7)<|bO 16 rfl rfl<|qkAdd rfl<|aB (Md rfl rfl rfl) rfl<|qkAsg rfl<|dtN<|aP ?_
 cases h
 exact lI rfl
end
section
def m_ (p0:BX) (r12:Int) (a17:eZ):Option ((Int×Int×Int×Int×Int)×Int):=
 some ((((wI .i64 (p0.1+(1:Int))),(wI .i64 (p0.2.1+r12)),a17.1,(wI .i64 (p0.2.2.1+(1:Int))),a17.2)),(0:Int))
def mZ (U:Nat) (p0:BX) (p1:Int) (p2:Int) (a8:Bool):Option ((Int×Int×Int×Int×Int)×Int):=
 if a8=true then(some ((((0:Int),(0:Int),(0:Int),(0:Int),(0:Int))),(11:Int)))else(if p0.1=(4096:Int)then(some ((((0:Int),(0:Int),(0:Int),(0:Int),(0:Int))),(3:Int)))else(Option.bind (iW U p1) fun r12=>(if(cS .u32 (qB .u32 p0.2.2.2.2 p1) p2)=(0:Int)then(m_ p0 r12 ((wI .i64 (p0.2.2.1+(1:Int))),p2))else(m_ p0 r12 (p0.2.2.1,(cS .u32 (qB .u32 p0.2.2.2.2 p1) p2))))))
def jA (U:Nat) (p0:BX) (p1:Int) (p2:Int):Option ((Int×Int×Int×Int×Int)×Int):=
 Option.bind (gZ U ((p0.1,p0.2.1,p0.2.2.1,p0.2.2.2.1,p0.2.2.2.2))) fun r3=>(if(!r3)=true then(some ((((0:Int),(0:Int),(0:Int),(0:Int),(0:Int))),(7:Int)))else(if p1=(0:Int)then(mZ U p0 p1 p2 (true))else(Option.bind (eX U ([p1,p2])) fun r22=>(mZ U p0 p1 p2 ((!r22))))))
theorem Um:aO Tryz.prog 114:=Tryz.call114
theorem Ho (U:Nat) {p0:BX} {p1:Int} {p2:Int} (r:(Int×Int×Int×Int×Int)×Int) (h:jA U p0 p1 p2=some r):
  aT Tryz.prog 114 #[Value.agg #[vI (p0.1),vI (p0.2.1),vI (p0.2.2.1),vI (p0.2.2.2.1),vU (p0.2.2.2.2)],vU (p1),vU (p2)] [] (fun x:Unit=>Value.tuple #[Value.agg #[vI (r.1.1),vI (r.1.2.1),vI (r.1.2.2.1),vI (r.1.2.2.2.1),vU (r.1.2.2.2.2)],vI (r.2)]) (fun x l=>l) (fun _ l=>l):=by
 refine aT.of Tryz.func114 rfl Tryz.ntmps114 rfl fun c=>?_
 refine sqR<|aF (aJ.box (cs:=[vI (p0.1),vI (p0.2.1),vI (p0.2.2.1),vI (p0.2.2.2.1),vU (p0.2.2.2.2)]) rfl rfl) rfl fun b1=>aF (aJ.alloc (cs:=Tm) rfl rfl) rfl fun b2=>qkAsg rfl<|dtN<|aI<|sqR<|qkLdA 1 rfl<|bnE h fun r3 w4 h=>aF (aJ.callQ Us (EO U  r3 w4) rfl .nil) rfl fun x5=>aB (qL rfl) rfl<|dtN ?_
 refine As h rfl (fun _ h=>?_) fun _ h=>?_
 ·refine sqR ?_
  refine aB (FL (r:=Value.agg #[vI (0:Int),vI (0:Int),vI (0:Int),vI (0:Int),vU (0:Int)]) (by intro w;simp[Instr.build,Instr.fill,dA,cN,cF,dB,dC,cO,d_])) rfl ?_
  refine bH 0 (vs:=Tm) rfl rfl rfl rfl rfl rfl<|qkAsg rfl<|dtN<|aP<|aH ?_
  cases h
  exact iZ () rfl rfl (RV.cell 0 rfl rfl rfl rfl) (RV.tmp rfl) .nil aD.nil
 refine cI<|aI<|aI<|midU (fun a8=>mZ U p0 p1 p2 a8=some r) (fun a8 b9=>[(1,vU (p1)),(2,vU (p2)),(3,vP b1),(6,vP b2),(20,vB (a8))]) (fun a8 b9=>[bM b2 Tm 42,bM b1 [vI (p0.1),vI (p0.2.1),vI (p0.2.2.1),vI (p0.2.2.2.1),vU (p0.2.2.2.2)] 42]) ?_ ?_
 ·refine aM<|qkMove rfl<|qkEql rfl<|qkMove rfl ?_
  refine Cv h rfl (fun _ h=>?_) fun _ h=>?_
  ·refine gdSkip rfl<|gdSkip rfl<|gdSkip rfl<|gdSkip rfl<|gdSkip rfl<|qkPkT rfl<|dtN ?_
   exact jV (true) () h SF rfl
  refine gyMove rfl<|gyMove rfl<|sV rfl (bX (e:=jL) ([p1,p2]) [(0,vU (p1)),(1,vU (p2))] rfl rfl rfl rfl (KD (vU (p1)) (vU (p2)) rfl rfl) rfl rfl rfl) rfl fun u21=>bnE h fun r22 w23 h=>sV rfl (aJ.callQ Nx (wY U u21 r22 w23) rfl (aD.cons (aU (aC.res 0 rfl) nQ) .nil)) rfl fun x24=>aR rfl (qL rfl) rfl<|qkPkF rfl<|dtN ?_
  exact bY ((!r22)) () h SF (aQ.ix [1,2] rfl rfl) (aD.refl _ _)
 intro a8 b9 h
 refine As h rfl (fun _ h=>?_) fun _ h=>?_
 ·refine sqR ?_
  refine aB (FL (r:=Value.agg #[vI (0:Int),vI (0:Int),vI (0:Int),vI (0:Int),vU (0:Int)]) (by intro w;simp[Instr.build,Instr.fill,dA,cN,cF,dB,dC,cO,d_])) rfl ?_
  refine bH 0 (vs:=Tm) rfl rfl rfl rfl rfl rfl<|qkAsg rfl<|dtN<|aP<|aH ?_
  cases h
  exact iZ () rfl rfl (RV.cell 0 rfl rfl rfl rfl) (RV.tmp rfl) .nil aD.nil
 refine cI<|aI<|sqR<|qkFld rfl<|qkLd 1 rfl<|qkEql rfl<|dtN ?_
 refine eB h rfl (fun h=>?_) fun h=>?_
 ·refine sqR ?_
  refine aB (FL (r:=Value.agg #[vI (0:Int),vI (0:Int),vI (0:Int),vI (0:Int),vU (0:Int)]) (by intro w;simp[Instr.build,Instr.fill,dA,cN,cF,dB,dC,cO,d_])) rfl ?_
  refine bH 0 (vs:=Tm) rfl rfl rfl rfl rfl rfl<|qkAsg rfl<|dtN<|aP<|aH ?_
  cases h
  exact iZ () rfl rfl (RV.cell 0 rfl rfl rfl rfl) (RV.tmp rfl) .nil aD.nil
 refine cI<|sqR<|qkFld rfl<|qkLd 1 rfl<|qkAdd rfl<|qkFld rfl<|eK 1 rfl rfl rfl rfl rfl rfl<|dtN<|aI ?_
 refine JR.start [0,1,0,4,15,31,63] 4 mixedOrders (by decide +kernel) ?_
 refine JR.open (by exact rfl) ?_
 refine jkFld rfl<|jkLd 1 rfl<|jkMove rfl<|bnE h fun r12 w13 h=>JR.loud rfl rfl rfl (aJ.callQ Ut (Cp U  r12 w13) rfl .nil) rfl (fun x14=>(rA [([1],[])] rfl)) fun x14=>bO 4 rfl rfl<|qkAdd rfl<|qkFld rfl<|eK 1 rfl rfl rfl rfl rfl rfl<|dtN<|sqR<|qkFld rfl<|qkLd 1 rfl<|qkAdd rfl<|qkFld rfl<|eK 1 rfl rfl rfl rfl rfl rfl<|dtN<|sqR<|qkFld rfl<|qkLd 1 rfl<|qkMove rfl<|aB (CP rfl rfl) rfl<|qkMove rfl<|qkAnd rfl<|qkFld rfl<|eK 1 rfl rfl rfl rfl rfl rfl<|dtN<|aI<|midU (fun a17=>m_ p0 r12 a17=some r) (fun a17 b18=>[(3,vP b1),(6,vP b2)]) (fun a17 b18=>[bM b2 Tm 42,bM b1 [vI (wI .i64 (p0.1+(1:Int))),vI (wI .i64 (p0.2.1+r12)),vI (a17.1),vI (wI .i64 (p0.2.2.1+(1:Int))),vU (a17.2)] 42]) ?_ ?_
 ·refine sqR<|qkFld rfl<|qkLd 1 rfl<|qkEql rfl<|dtN ?_
  refine eB h rfl (fun h=>?_) fun h=>?_
  ·refine sqR<|qkFld rfl<|qkLd 1 rfl<|qkFld rfl<|eK 1 rfl rfl rfl rfl rfl rfl<|dtN<|aM<|qkMove rfl<|qkFld rfl<|eK 1 rfl rfl rfl rfl rfl rfl<|dtN ?_
   exact jV ((wI .i64 (p0.2.2.1+(1:Int))),p2) () h SF rfl
  refine cI ?_
  exact jV (p0.2.2.1,(cS .u32 (qB .u32 p0.2.2.2.2 p1) p2)) () h SF rfl
 intro a17 b18 h
 unfold m_ at h
 refine sqR<|qkLdA 1 rfl<|bH 0 (vs:=[vI (wI .i64 (p0.1+(1:Int))),vI (wI .i64 (p0.2.1+r12)),vI (a17.1),vI (wI .i64 (p0.2.2.1+(1:Int))),vU (a17.2)]) rfl rfl rfl rfl rfl rfl<|qkAsg rfl<|dtN<|aP ?_
 cases h
 exact iZ () rfl rfl (RV.cell 0 rfl rfl rfl rfl) (RV.tmp rfl) .nil aD.nil
end
end Go.Proofs.YtigggfnchamobaaGreatDoor
end
