/- Models and proofs. Conditions: none. -/
import Derived.Test.YtigggfnchamobaaGreatDoorZCMe5
import Derived.Test.YtigggfnchamobaaGreatDoorZCMe6
import Derived.Test.YtigggfnchamobaaGreatDoorZCMe2
set_option linter.unusedVariables false
set_option linter.unusedSimpArgs false
set_option maxHeartbeats 4000000
set_option maxRecDepth 20000
section
namespace Go.Proofs.YtigggfnchamobaaGreatDoor
open Go.Sx
def sE  (a7:(List (List (Int×Int)))):Option ((List (List (Int×Int)))):=
 some (a7)
def sF (a13:Int×(List (List (Int×Int)))) (ag12:(Int×(List (List (Int×Int))))->Option ((List (List (Int×Int))))) (a19:(List (List (Int×Int)))):Option ((List (List (Int×Int)))):=
 ag12 ((wI .i64 (a13.1+(1:Int))),a19)
def kB (fuel:Nat) (p0:ByteArray×(List (ByteArray×Int×Int×Int×Int×Int))×(List (ByteArray×(Value×List (Int×Int))×(Value×List (Int×(Value×List (Int×Int))))))) (p1:List (Int)×(List (List (Int×Int)))) (a13:Int×(List (List (Int×Int)))) (ag12:(Int×(List (List (Int×Int))))->Option ((List (List (Int×Int))))) (a28:Int×(List (List (Int×Int)))) (ag27:(Int×(List (List (Int×Int))))->Option ((List (List (Int×Int))))):Option ((List (List (Int×Int)))):=
 if a28.1<(List.length p0.2.1:Int)then(ck (0<=a28.1∧a28.1<(List.length p0.2.1:Int)) (ck (0<=a13.1∧a13.1<(List.length a28.2:Int)) (ck (0<=a13.1∧a13.1<(List.length a28.2:Int)) (Option.bind (iM fuel ((((at' p0.2.1 a28.1).1),((at' p0.2.1 a28.1).2.1),((at' p0.2.1 a28.1).2.2.1),((at' p0.2.1 a28.1).2.2.2.1),((at' p0.2.1 a28.1).2.2.2.2.1),((at' p0.2.1 a28.1).2.2.2.2.2))) ((p1.1,p1.2)) a13.1) fun r40=>(ck (0<=a28.1∧a28.1<(List.length (at' a28.2 a13.1):Int)) (ck (0<=a28.1∧a28.1<(List.length (at' (List.set a28.2 (Int.toNat a13.1) (List.set (at' a28.2 a13.1) (Int.toNat a28.1) (r40.1,((at' (at' a28.2 a13.1) a28.1).2)))) a13.1):Int)) (ag27 ((wI .i64 (a28.1+(1:Int))),(List.set (List.set a28.2 (Int.toNat a13.1) (List.set (at' a28.2 a13.1) (Int.toNat a28.1) (r40.1,((at' (at' a28.2 a13.1) a28.1).2)))) (Int.toNat a13.1) (List.set (at' (List.set a28.2 (Int.toNat a13.1) (List.set (at' a28.2 a13.1) (Int.toNat a28.1) (r40.1,((at' (at' a28.2 a13.1) a28.1).2)))) a13.1) (Int.toNat a28.1) (((at' (at' (List.set a28.2 (Int.toNat a13.1) (List.set (at' a28.2 a13.1) (Int.toNat a28.1) (r40.1,((at' (at' a28.2 a13.1) a28.1).2)))) a13.1) a28.1).1),r40.2)))))))))))else(sF a13 ag12 (a28.2))
def iL (fuel:Nat) (p0:ByteArray×(List (ByteArray×Int×Int×Int×Int×Int))×(List (ByteArray×(Value×List (Int×Int))×(Value×List (Int×(Value×List (Int×Int))))))) (p1:List (Int)×(List (List (Int×Int)))) (a13:Int×(List (List (Int×Int)))) (ag12:(Int×(List (List (Int×Int))))->Option ((List (List (Int×Int))))):Option ((List (List (Int×Int)))):=
 if a13.1<(List.length (List.replicate (Int.toNat (List.length p1.1:Int)) ([]:List (Int×Int))):Int)then(ck (0<=(List.length p0.2.1:Int)∧(List.length p0.2.1:Int)<=1099511627) (ck (0<=a13.1∧a13.1<(List.length a13.2:Int)) (bG (kB fuel p0 p1 a13 ag12) fuel ((0:Int),(List.set a13.2 (Int.toNat a13.1) (List.replicate (Int.toNat (List.length p0.2.1:Int)) ((0:Int),(0:Int))))))))else(sE  (a13.2))
def jT (fuel:Nat) (p0:ByteArray×(List (ByteArray×Int×Int×Int×Int×Int))×(List (ByteArray×(Value×List (Int×Int))×(Value×List (Int×(Value×List (Int×Int))))))) (p1:List (Int)×(List (List (Int×Int)))):Option ((List (List (Int×Int)))):=
 ck (0<=(List.length p1.1:Int)∧(List.length p1.1:Int)<=1099511627) (bG (iL fuel p0 p1) fuel ((0:Int),(List.replicate (Int.toNat (List.length p1.1:Int)) ([]:List (Int×Int)))))
theorem Qn:aR Tryz.prog 85:=Tryz.call85
theorem AZ (fuel:Nat) {p0:ByteArray×(List (ByteArray×Int×Int×Int×Int×Int))×(List (ByteArray×(Value×List (Int×Int))×(Value×List (Int×(Value×List (Int×Int))))))} {p1:List (Int)×(List (List (Int×Int)))} (v0:Value)  (v1:Value)  (v2:Value)  (v3:Value)  (z4:List (Value×List (Int×Int))) (r:(List (List (Int×Int)))) (h:jT fuel p0 p1=some r):
  aV Tryz.prog 85 #[Value.agg #[Value.string (p0.1),v0,v1],Value.agg #[v2,v3]] [Sl aP v0 p0.2.1,Sl aI v1 p0.2.2,PF (Value.agg #[Value.string p0.1,v0,v1]),Sl bM v2 p1.1,S2 aZ v3 z4 p1.2] (fun x:Value×List Value=>x.1) (fun x l=>Ar dJ.raw x.1 x.2::jG bR x.2 r::l) (fun _ l=>l):=by
 refine aV.of Tryz.func85 rfl Tryz.ntmps85 rfl fun c=>?_
 unfold jT at h
 refine sqR<|aG (aM.box (cs:=[Value.string (p0.1),v0,v1]) rfl rfl) rfl fun b1=>aG (aM.box (cs:=[v2,v3]) rfl rfl) rfl fun b2=>qkAsg rfl<|dtN<|sqR<|qkFld rfl<|qkLd 0 rfl<|aB (b_ rfl (aC.fact 3 rfl) rfl) rfl ?_
 have⟨j3,h⟩:=aH h
 refine jJ (vO bR (Int.toNat (List.length p1.1:Int)))<|aG (oH (e:=dJ.raw) (Value.slice none 0 0) rfl rfl rfl rfl j3 rfl rfl rfl) rfl fun u4=>qkAsg rfl<|dtN<|aL<|midL (B:=List Value) (fun a7=>sE  a7=some r) (fun a7 b8=>[(5,u4)]) (fun a7 b8=>[Ar dJ.raw u4 b8,jG bR b8 a7]) ?_ ?_
 ·refine sqR<|qkMove rfl<|aB (iX rfl (bD (i:=0) (j:=1) rfl rfl bJ) rfl) rfl<|qkMove rfl<|dtN<|aQ<|loopL (B:=List Value) (iL fuel p0 p1) (fun a13 b14=>[(2,vP b1),(3,vP b2),(5,u4),(14,vI (List.length (List.replicate (Int.toNat (List.length p1.1:Int)) ([]:List (Int×Int))):Int)),(15,vI (a13.1))]) (fun a13 b14=>[Ar dJ.raw u4 b14,jG bR b14 a13.2,bO b2 [v2,v3] 28,bO b1 [Value.string (p0.1),v0,v1] 33]) ((0:Int),(List.replicate (Int.toNat (List.length p1.1:Int)) ([]:List (Int×Int)))) (List.replicate (Int.toNat (List.length p1.1:Int)) (Value.slice none 0 0)) h SF (aK.refl _) ?_
  clear h
  intro k15 a13 b14 h
  unfold iL at h
  refine sqR<|qkLss rfl<|dtN<|aL ?_
  refine eL h rfl (fun h=>?_) fun h=>?_
  ·refine iV<|aL<|midL (B:=List Value) (fun a19=>sF a13 (bG (iL fuel p0 p1) k15) a19=some r) (fun a19 b20=>[(2,vP b1),(3,vP b2),(5,u4),(14,vI (List.length (List.replicate (Int.toNat (List.length p1.1:Int)) ([]:List (Int×Int))):Int)),(15,vI (a13.1))]) (fun a19 b20=>[Ar dJ.raw u4 b20,jG bR b20 a19,bO b2 [v2,v3] 28,bO b1 [Value.string (p0.1),v0,v1] 33]) ?_ ?_
   ·refine aQ<|sqR<|qkMove rfl<|qkAsg rfl<|dtN<|sqR<|qkMove rfl<|qkMove rfl<|qkFld rfl<|qkLd 3 rfl<|aB (b_ rfl (aC.fact 0 rfl) rfl) rfl ?_
    have⟨j21,h⟩:=aH h
    refine aG (oH (e:=bR) (((0:Int),(0:Int))) rfl rfl rfl rfl j21 rfl rfl rfl) rfl fun u22=>?_
    have⟨j23,h⟩:=aH h
    refine aB (cO rfl rfl (bD (i:=1) (j:=2) rfl rfl bJ) rfl rfl j23) rfl<|bZ (Know.one ((aU (aC.res 0 rfl) bJ))) fun ho24=>jJ (uT (k:=a13.1) 2 0 rfl rfl rfl j23) ?_
    refine oG 0 1 ⟨j23.1,by first|exact j23.2|simpa using j23.2⟩ rfl rfl rfl rfl rfl (by simp) ho24 rfl ?_
    refine dtN<|sqR<|qkFld rfl<|qkLd 3 rfl<|aB (b_ rfl (aC.fact 0 rfl) rfl) rfl<|qkMove rfl<|dtN<|aQ<|loopL (kB fuel p0 p1 a13 (bG (iL fuel p0 p1) k15)) (fun a28 b29=>[(2,vP b1),(3,vP b2),(5,u4),(6,vI (a13.1)),(14,vI (List.length (List.replicate (Int.toNat (List.length p1.1:Int)) ([]:List (Int×Int))):Int)),(15,vI (a13.1)),(26,v0),(27,vI (List.length p0.2.1:Int)),(28,vI (a28.1))]) (fun a28 b29=>[Ar dJ.raw u4 (List.set b14 (Int.toNat a13.1) u22),jG bR (List.set b14 (Int.toNat a13.1) u22) a28.2,bO b2 [v2,v3] 28,bO b1 [Value.string (p0.1),v0,v1] 33]) ((0:Int),(List.set a13.2 (Int.toNat a13.1) (List.replicate (Int.toNat (List.length p0.2.1:Int)) ((0:Int),(0:Int))))) () h SF (aK.refl _) ?_
    clear h
    intro k30 a28 b29 h
    unfold kB at h
    refine sqR<|qkLss rfl<|dtN<|aL ?_
    refine eL h rfl (fun h=>?_) fun h=>?_
    ·refine iV<|aL<|aQ<|sqR<|qkMove rfl ?_
     have⟨j32,h⟩:=aH h
     refine aB (a_ rfl rfl (aC.fact 0 rfl) rfl rfl j32) rfl<|aB (fZ (cs:=[Value.string ((at' p0.2.1 a28.1).1),vI ((at' p0.2.1 a28.1).2.1),vI ((at' p0.2.1 a28.1).2.2.1),vI ((at' p0.2.1 a28.1).2.2.2.1),vI ((at' p0.2.1 a28.1).2.2.2.2.1),vI ((at' p0.2.1 a28.1).2.2.2.2.2)]) rfl (aC.fact 0 rfl) rH rfl rfl rfl rfl j32) rfl<|aG (aM.alloc (cs:=[Value.string (ByteArray.mk #[]),vI (0:Int),vI (0:Int),vI (0:Int),vI (0:Int),vI (0:Int)]) rfl rfl) rfl fun b33=>qkAsg rfl<|bI 0 (vs:=[Value.string ((at' p0.2.1 a28.1).1),vI ((at' p0.2.1 a28.1).2.1),vI ((at' p0.2.1 a28.1).2.2.1),vI ((at' p0.2.1 a28.1).2.2.2.1),vI ((at' p0.2.1 a28.1).2.2.2.2.1),vI ((at' p0.2.1 a28.1).2.2.2.2.2)]) rfl rfl rfl rfl rfl rfl<|dtN ?_
     refine JR.start [0,0,3,7,0,0,0,96,224,0,0,0,0,7168,15360,31744,31744,31,196095,458239,992,2097151,4194303] 21 mixedOrders (by decide +kernel) ?_
     refine JR.open (by exact rfl) ?_
     refine jkMove rfl<|jkMove rfl ?_
     have⟨j34,h⟩:=aH h
     refine bP (bX 2 rfl) fun hl35=>?_
     refine aN rfl (aK.cons 1 rfl .nil) .nil (fD 0 rfl rfl rfl rfl rfl j34.1 (by have q1:=j34.2;have q2:=hl35;(try simp only[List.length_set]at q1);(try simp only[List.length_set]at q2);(try simp only[List.length_set]);omega)) aD.z ?_
     refine bP (bX 2 rfl) fun hl36=>aN rfl (aK.cons 1 rfl .nil) .nil (gR 0 rfl rfl hl36 rfl rfl j34) aD.z<|jkMove rfl<|jkMove rfl<|jkMove rfl ?_
     have⟨j37,h⟩:=aH h
     refine bP (bX 2 rfl) fun hl38=>?_
     refine aN rfl (aK.cons 1 rfl .nil) .nil (fD 0 rfl rfl rfl rfl rfl j37.1 (by have q1:=j37.2;have q2:=hl38;(try simp only[List.length_set]at q1);(try simp only[List.length_set]at q2);(try simp only[List.length_set]);omega)) aD.z ?_
     refine bP (bX 2 rfl) fun hl39=>aN rfl (aK.cons 1 rfl .nil) .nil (gR 0 rfl rfl hl39 rfl rfl j37) aD.z<|jkMove rfl<|jkLdA 0 rfl<|jkLdA 3 rfl<|jkMove rfl ?_
     have⟨r40,w41,h⟩:=fE h
     refine JR.loud rfl rfl rfl (aM.callQ MS (Al fuel v2 v3 z4 r40 w41) rfl (aA.cons (aC.fact 3 rfl) (aA.cons (aC.fact 4 rfl) .nil))) rfl (fun x42=>(aF.b rfl (aF.b rfl (aF.b rfl (aF.h .nil .nil (aF.h (aK.ix [1] rfl rfl) .nil (aF.h (aK.ix [1] rfl rfl) .nil (aF.h .nil .nil (aF.h .nil .nil (aF.h .nil .nil (aF.h (aK.ix [1] rfl rfl) .nil (aF.h (aK.ix [1] rfl rfl) .nil (aF.h .nil .nil (aF.h .nil .nil aF.z)))))))))))))) fun x42=>aN rfl .nil .nil (dQ rfl) (aD.b rfl aD.z)<|aN rfl .nil .nil (bF rfl rfl) (aD.b rfl aD.z)<|aN rfl .nil .nil (bF rfl rfl) (aD.b rfl aD.z) ?_
     have⟨j43,h⟩:=aH h
     refine bP (Know.len (aC.row (j:=2) rfl bJ j34.1 j34.2)) fun hl44=>aN rfl .nil .nil (yN rfl rfl hl44 rfl rfl j43) (aD.h .nil .nil aD.z) ?_
     refine aN rfl .nil .nil (Bi (i:=0) rfl rfl rfl rfl rfl (by decide)) (aD.b rfl aD.z) ?_
     refine rR rfl rfl rfl (Az (us:=[Value.int .i64 (r40.1)]) (o:=0) (k:=a13.1) 2 ((r40.1,((at' (at' a28.2 a13.1) a28.1).2))) ⟨j34.1,by first|exact j34.2|simpa using j34.2⟩ j43 rfl rfl rfl rfl rfl rfl rfl rfl rfl rfl) (fun x45=>(aF.b rfl (aF.b rfl (aF.h .nil .nil (aF.b rfl (aF.b rfl (aF.b rfl (aF.b rfl (aF.b rfl (aF.h .nil .nil (aF.b rfl (aF.b rfl (aF.b rfl (aF.b rfl (aF.b rfl (aF.b rfl (aF.b rfl (aF.b rfl (aF.b rfl aF.z))))))))))))))))))) fun x45=>?_
     have⟨j46,h⟩:=aH h
     refine bP (Know.len (aC.row (j:=2) rfl bJ j37.1 (by first|exact j37.2|simpa using j37.2))) fun hl47=>?_
     refine aN rfl .nil .nil (yN rfl rfl hl47 rfl rfl j46) (aD.h .nil .nil (aD.h .nil .nil aD.z))<|bL 21 rfl rfl ?_
     refine aB (Bi (i:=1) rfl rfl rfl rfl rfl (by decide)) rfl ?_
     refine MF (Az (us:=[Value.int .i64 (r40.2)]) (o:=1) (k:=a13.1) 2 ((((at' (at' (List.set a28.2 (Int.toNat a13.1) (List.set (at' a28.2 a13.1) (Int.toNat a28.1) (r40.1,((at' (at' a28.2 a13.1) a28.1).2)))) a13.1) a28.1).1),r40.2)) ⟨j37.1,by first|exact j37.2|simpa using j37.2⟩ j46 rfl rfl rfl rfl rfl rfl rfl rfl rfl rfl) fun x48=>dY<|inT<|aO<|qkAdd rfl<|qkMove rfl<|dtN ?_
     exact nN ((wI .i64 (a28.1+(1:Int))),(List.set (List.set a28.2 (Int.toNat a13.1) (List.set (at' a28.2 a13.1) (Int.toNat a28.1) (r40.1,((at' (at' a28.2 a13.1) a28.1).2)))) (Int.toNat a13.1) (List.set (at' (List.set a28.2 (Int.toNat a13.1) (List.set (at' a28.2 a13.1) (Int.toNat a28.1) (r40.1,((at' (at' a28.2 a13.1) a28.1).2)))) a13.1) (Int.toNat a28.1) (((at' (at' (List.set a28.2 (Int.toNat a13.1) (List.set (at' a28.2 a13.1) (Int.toNat a28.1) (r40.1,((at' (at' a28.2 a13.1) a28.1).2)))) a13.1) a28.1).1),r40.2)))) () h SF (aK.ix [1,2,3,4] rfl rfl) (aA.refl _ _)
    refine nO<|cX<|cX<|tA<|inT ?_
    exact iJ (a28.2) (List.set b14 (Int.toNat a13.1) u22) h SF rfl
   clear h
   intro a19 b20 h
   unfold sF at h
   refine aO<|qkAdd rfl<|qkMove rfl<|dtN ?_
   exact xK ((wI .i64 (a13.1+(1:Int))),a19) (b20) h SF rfl
  refine xO ?_
  exact cF (a13.2) (b14) h SF (aK.ix [0,1] rfl rfl) (aA.refl _ _)
 clear h
 intro a7 b8 h
 unfold sE at h
 refine sqR<|qkMove rfl<|qkAsg rfl<|dtN<|aS ?_
 cases h
 exact fQ (u4,b8) rfl rfl (RV.tmp rfl) (aK.refl _) aA.nil
end Go.Proofs.YtigggfnchamobaaGreatDoor
end
section
namespace Go.Proofs.YtigggfnchamobaaGreatDoor
open Go.Sx
def tX  (a11:Unit):Option (Int):=
 some (0:Int)
def nU (a15:Int) (ag14:(Int)->Option (Int)) (a19:Unit):Option (Int):=
 ag14 (wI .i64 (a15+(1:Int)))
def qG (a15:Int) (ag14:(Int)->Option (Int)) (a28:Bool):Option (Int):=
 if a28=true then(some (9:Int))else(nU a15 ag14 (()))
def jR (fuel:Nat) (p0:ByteArray×(List (ByteArray×Int×Int×Int×Int×Int))×(List (ByteArray×(Value×List (Int×Int))×(Value×List (Int×(Value×List (Int×Int))))))) (p1:List (Int)×(List (List (Int×Int)))) (a15:Int) (ag14:(Int)->Option (Int)):Option (Int):=
 if a15<(List.length p0.2.1:Int)then(ck (0<=a15∧a15<(List.length p0.2.1:Int)) (if((at' p0.2.1 a15).2.1)≠(1:Int)then(nU a15 ag14 (()))else(Option.bind (iM fuel ((((at' p0.2.1 a15).1),((at' p0.2.1 a15).2.1),((at' p0.2.1 a15).2.2.1),((at' p0.2.1 a15).2.2.2.1),((at' p0.2.1 a15).2.2.2.2.1),((at' p0.2.1 a15).2.2.2.2.2))) ((p1.1,p1.2)) (0:Int)) fun r24=>(if r24.2<r24.1 then(qG a15 ag14 (true))else(qG a15 ag14 (decide ((4096:Int)<(wI .i64 ((wI .i64 (r24.2 - r24.1))+(1:Int))))))))))else(tX  (()))
def pO (fuel:Nat) (p0:ByteArray×(List (ByteArray×Int×Int×Int×Int×Int))×(List (ByteArray×(Value×List (Int×Int))×(Value×List (Int×(Value×List (Int×Int))))))) (p1:List (Int)×(List (List (Int×Int)))):Option (Int):=
 Option.bind (yH fuel ((p0.1,p0.2.1,p0.2.2))) fun r3=>(if(!r3)=true then(some (8:Int))else(Option.bind (eI fuel ((p1.1,p1.2))) fun r7=>(if(!r7)=true then(some (1:Int))else(bG (jR fuel p0 p1) fuel (0:Int)))))
theorem Tm:aR Tryz.prog 108:=Tryz.call108
theorem GX (fuel:Nat) {p0:ByteArray×(List (ByteArray×Int×Int×Int×Int×Int))×(List (ByteArray×(Value×List (Int×Int))×(Value×List (Int×(Value×List (Int×Int))))))} {p1:List (Int)×(List (List (Int×Int)))} (v0:Value)  (v1:Value)  (v2:Value)  (v3:Value)  (z4:List (Value×List (Int×Int))) (r:Int) (h:pO fuel p0 p1=some r):
  aV Tryz.prog 108 #[Value.agg #[Value.string (p0.1),v0,v1],Value.agg #[v2,v3]] [Sl aP v0 p0.2.1,Sl aI v1 p0.2.2,PF (Value.agg #[Value.string p0.1,v0,v1]),Sl bM v2 p1.1,S2 aZ v3 z4 p1.2] (fun x:Unit=>vI (r)) (fun x l=>l) (fun _ l=>l):=by
 refine aV.of Tryz.func108 rfl Tryz.ntmps108 rfl fun c=>?_
 unfold pO at h
 refine sqR<|aG (aM.box (cs:=[Value.string (p0.1),v0,v1]) rfl rfl) rfl fun b1=>aG (aM.box (cs:=[v2,v3]) rfl rfl) rfl fun b2=>qkAsg rfl<|dtN<|aL<|sqR<|qkLdA 1 rfl ?_
 have⟨r3,w4,h⟩:=fE h
 refine aG (aM.callQ MU (Hc fuel v0 v1 r3 w4) rfl (aA.cons (aC.fact 0 rfl) (aA.cons (aC.fact 1 rfl) (aA.cons (aC.fact 2 rfl) .nil)))) rfl fun x5=>aB (oD rfl) rfl<|dtN ?_
 refine zJ h rfl (fun _ h=>?_) fun _ h=>?_
 ·refine sqR<|qkAsg rfl<|dtN<|aS<|aJ ?_
  cases h
  exact vJ rfl
 refine iV<|aL<|sqR<|qkLdA 0 rfl ?_
 have⟨r7,w8,h⟩:=fE h
 refine aG (aM.callQ FE (rY fuel v2 v3 z4 r7 w8) rfl (aA.cons (aC.fact 3 rfl) (aA.cons (aC.fact 4 rfl) .nil))) rfl fun x9=>aB (oD rfl) rfl<|dtN ?_
 refine zJ h rfl (fun _ h=>?_) fun _ h=>?_
 ·refine sqR<|qkAsg rfl<|dtN<|aS<|aJ ?_
  cases h
  exact vJ rfl
 refine iV<|aL<|midU (fun a11=>tX  a11=some r) (fun a11 b12=>[]) (fun a11 b12=>[]) ?_ ?_
 ·refine sqR<|qkFld rfl<|qkLd 1 rfl<|aB (b_ rfl (aC.fact 0 rfl) rfl) rfl<|qkMove rfl<|dtN<|aQ<|loopL (jR fuel p0 p1) (fun a15 b16=>[(3,vP b2),(16,v0),(17,vI (List.length p0.2.1:Int)),(18,vI (a15))]) (fun a15 b16=>[bO b2 [v2,v3] 28]) (0:Int) () h SF (aK.ix [0] rfl rfl) ?_
  clear h
  intro k17 a15 b16 h
  unfold jR at h
  refine sqR<|qkLss rfl<|dtN<|aL ?_
  refine eL h rfl (fun h=>?_) fun h=>?_
  ·refine iV<|aL<|midU (fun a19=>nU a15 (bG (jR fuel p0 p1) k17) a19=some r) (fun a19 b20=>[(3,vP b2),(16,v0),(17,vI (List.length p0.2.1:Int)),(18,vI (a15))]) (fun a19 b20=>[bO b2 [v2,v3] 28]) ?_ ?_
   ·refine aQ<|sqR ?_
    have⟨j21,h⟩:=aH h
    refine aB (a_ rfl rfl (aC.fact 0 rfl) rfl rfl j21) rfl<|aB (fZ (cs:=[Value.string ((at' p0.2.1 a15).1),vI ((at' p0.2.1 a15).2.1),vI ((at' p0.2.1 a15).2.2.1),vI ((at' p0.2.1 a15).2.2.2.1),vI ((at' p0.2.1 a15).2.2.2.2.1),vI ((at' p0.2.1 a15).2.2.2.2.2)]) rfl (aC.fact 0 rfl) rH rfl rfl rfl rfl j21) rfl<|aG (aM.alloc (cs:=[Value.string (ByteArray.mk #[]),vI (0:Int),vI (0:Int),vI (0:Int),vI (0:Int),vI (0:Int)]) rfl rfl) rfl fun b22=>bI 0 (vs:=[Value.string ((at' p0.2.1 a15).1),vI ((at' p0.2.1 a15).2.1),vI ((at' p0.2.1 a15).2.2.1),vI ((at' p0.2.1 a15).2.2.2.1),vI ((at' p0.2.1 a15).2.2.2.2.1),vI ((at' p0.2.1 a15).2.2.2.2.2)]) rfl rfl rfl rfl rfl rfl<|dtN<|aL<|sqR<|qkFld rfl<|qkLd 0 rfl<|aB (kR rfl rfl) rfl<|dtN ?_
    refine eL h rfl (fun h=>?_) fun h=>?_
    ·refine nO<|cX<|tA<|xR ?_
     exact cF () (()) h SF (aK.ix [1] rfl rfl) (aA.refl _ _)
    refine iV<|sqR<|qkLdA 0 rfl<|qkLdA 1 rfl ?_
    have⟨r24,w25,h⟩:=fE h
    refine aG (aM.callQ MS (Al fuel v2 v3 z4 r24 w25) rfl (aA.cons (aC.fact 3 rfl) (aA.cons (aC.fact 4 rfl) .nil))) rfl fun x26=>qkMove rfl<|aB (bF rfl rfl) rfl<|aB (bF rfl rfl) rfl<|qkAsg rfl<|qkAsg rfl<|dtN<|aL<|midU (fun a28=>qG a15 (bG (jR fuel p0 p1) k17) a28=some r) (fun a28 b29=>[(3,vP b2),(16,v0),(17,vI (List.length p0.2.1:Int)),(18,vI (a15)),(40,Value.bool (a28))]) (fun a28 b29=>[bO b2 [v2,v3] 28]) ?_ ?_
    ·refine aO<|qkMove rfl<|qkMove rfl<|qkLss rfl<|qkMove rfl ?_
     refine Cy h rfl (fun _ h=>?_) fun _ h=>?_
     ·refine gdSkip rfl<|gdSkip rfl<|gdSkip rfl<|gdSkip rfl<|gdSkip rfl<|aB (bW rfl rfl) rfl<|dtN ?_
      exact cF (true) () h SF (aK.ix [1] rfl rfl) (aA.refl _ _)
     refine gyMove rfl<|gyMove rfl<|aT rfl (qE rfl rfl) rfl<|aT rfl (pS rfl rfl) rfl<|aT rfl (tT rfl rfl) rfl<|aB (cA rfl rfl) rfl<|dtN ?_
     exact cF (decide ((4096:Int)<(wI .i64 ((wI .i64 (r24.2 - r24.1))+(1:Int))))) () h SF (aK.ix [1] rfl rfl) (aA.refl _ _)
    clear h
    intro a28 b29 h
    unfold qG at h
    refine zJ h rfl (fun _ h=>?_) fun _ h=>?_
    ·refine sqR<|qkAsg rfl<|dtN<|aS<|bK<|aJ<|aJ<|bK<|aJ ?_
     cases h
     exact vJ rfl
    refine cU<|inT ?_
    exact iJ () (()) h SF rfl
   clear h
   intro a19 b20 h
   unfold nU at h
   refine aO<|qkAdd rfl<|qkMove rfl<|dtN ?_
   exact xK (wI .i64 (a15+(1:Int))) () h SF rfl
  refine xO ?_
  exact cF () (()) h SF .nil (aA.refl _ _)
 clear h
 intro a11 b12 h
 unfold tX at h
 refine sqR<|qkAsg rfl<|dtN<|aS ?_
 cases h
 exact lP rfl
end Go.Proofs.YtigggfnchamobaaGreatDoor
end
section
namespace Go.Proofs.YtigggfnchamobaaGreatDoor
open Go.Sx
def sK  (a2:Unit):Option (Bool):=
 some (true)
def pH (a6:Int) (ag5:(Int)->Option (Bool)) (a12:Bool):Option (Bool):=
 if a12=true then(some (false))else(ag5 (wI .i64 (a6+(1:Int))))
def kC (p0:List (Int×Int)) (p1:List (Int)) (a6:Int) (ag5:(Int)->Option (Bool)):Option (Bool):=
 if a6<(List.length p1:Int)then(ck (0<=a6∧a6<(List.length p1:Int)) (ck (0<=a6∧a6<(List.length p0:Int)) (if(at' p1 a6)<((at' p0 a6).1)then(pH a6 ag5 (true))else(ck (0<=a6∧a6<(List.length p0:Int)) (pH a6 ag5 (decide (((at' p0 a6).2)<(at' p1 a6))))))))else(sK  (()))
def qM (fuel:Nat) (p0:List (Int×Int)) (p1:List (Int)):Option (Bool):=
 if(List.length p1:Int)≠(List.length p0:Int)then(some (false))else(bG (kC p0 p1) fuel (0:Int))
theorem Tw:aR Tryz.prog 132:=Tryz.call132
theorem GD (fuel:Nat) {p0:List (Int×Int)} {p1:List (Int)} (v0:Value)  (v1:Value) (r:Bool) (h:qM fuel p0 p1=some r):
  aV Tryz.prog 132 #[v0,v1] [Sl aZ v0 p0,Sl bM v1 p1] (fun x:Unit=>Value.bool (r)) (fun x l=>l) (fun _ l=>l):=by
 refine aV.of Tryz.func132 rfl Tryz.ntmps132 rfl fun c=>?_
 unfold qM at h
 refine sqR<|qkAsg rfl<|dtN<|aL<|sqR<|qkMove rfl<|aB (b_ rfl (aC.fact 1 rfl) rfl) rfl<|qkMove rfl<|aB (b_ rfl (aC.fact 0 rfl) rfl) rfl<|aB (kR rfl rfl) rfl<|dtN ?_
 refine eL h rfl (fun h=>?_) fun h=>?_
 ·refine sqR<|qkAsg rfl<|dtN<|aS<|aJ ?_
  cases h
  exact lP rfl
 refine iV<|aL<|midU (fun a2=>sK  a2=some r) (fun a2 b3=>[]) (fun a2 b3=>[]) ?_ ?_
 ·refine sqR<|qkMove rfl<|aB (b_ rfl (aC.fact 1 rfl) rfl) rfl<|qkMove rfl<|dtN<|aQ<|loopL (kC p0 p1) (fun a6 b7=>[(0,v0),(12,v1),(13,vI (List.length p1:Int)),(14,vI (a6))]) (fun a6 b7=>[]) (0:Int) () h SF (aK.refl _) ?_
  clear h
  intro k8 a6 b7 h
  unfold kC at h
  refine sqR<|qkLss rfl<|dtN<|aL ?_
  refine eL h rfl (fun h=>?_) fun h=>?_
  ·refine iV<|aL<|aQ<|sqR<|qkMove rfl ?_
   have⟨j10,h⟩:=aH h
   refine aB (a_ rfl rfl (aC.fact 1 rfl) rfl rfl j10) rfl<|aB (bS rfl (aC.fact 1 rfl) rfl rfl rfl dB j10) rfl<|qkAsg rfl<|qkAsg rfl<|dtN<|aL<|midU (fun a12=>pH a6 (bG (kC p0 p1) k8) a12=some r) (fun a12 b13=>[(0,v0),(12,v1),(13,vI (List.length p1:Int)),(14,vI (a6)),(34,Value.bool (a12))]) (fun a12 b13=>[]) ?_ ?_
   ·refine aO<|qkMove rfl<|qkMove rfl<|qkMove rfl ?_
    have⟨j15,h⟩:=aH h
    refine aB (a_ rfl rfl (aC.fact 0 rfl) rfl rfl j15) rfl ?_
    refine aB (Bi (i:=0) rfl rfl rfl rfl rfl (by decide)) rfl ?_
    refine aB (pT rfl (aC.fact 0 rfl) rfl rfl rfl zF j15) rfl<|qkLss rfl<|qkMove rfl ?_
    refine Cy h rfl (fun _ h=>?_) fun _ h=>?_
    ·refine gdSkip rfl<|gdSkip rfl<|gdSkip rfl<|gdSkip rfl<|gdSkip rfl<|gdSkip rfl<|gdSkip rfl<|aB (bW rfl rfl) rfl<|dtN ?_
     exact iJ (true) () h SF rfl
    refine gyMove rfl<|gyMove rfl<|gyMove rfl ?_
    have⟨j17,h⟩:=aH h
    refine aT rfl (a_ rfl rfl (aC.fact 0 rfl) rfl rfl j17) rfl ?_
    refine aT rfl (Bi (i:=1) rfl rfl rfl rfl rfl (by decide)) rfl ?_
    refine aT rfl (pT rfl (aC.fact 0 rfl) rfl rfl rfl Lt j17) rfl<|aT rfl (tT rfl rfl) rfl<|aB (cA rfl rfl) rfl<|dtN ?_
    exact iJ (decide (((at' p0 a6).2)<(at' p1 a6))) () h SF rfl
   clear h
   intro a12 b13 h
   unfold pH at h
   refine zJ h rfl (fun _ h=>?_) fun _ h=>?_
   ·refine sqR<|qkAsg rfl<|dtN<|aS<|bK<|aJ<|aJ<|bK<|aJ ?_
    cases h
    exact lP rfl
   refine cU<|inT<|aO<|qkAdd rfl<|qkMove rfl<|dtN ?_
   exact xK (wI .i64 (a6+(1:Int))) () h SF rfl
  refine xO ?_
  exact iJ () (()) h SF rfl
 clear h
 intro a2 b3 h
 unfold sK at h
 refine sqR<|qkAsg rfl<|dtN<|aS ?_
 cases h
 exact lP rfl
end Go.Proofs.YtigggfnchamobaaGreatDoor
end
section
namespace Go.Proofs.YtigggfnchamobaaGreatDoor
open Go.Sx
def q_  (a2:Unit):Option (Bool):=
 some (true)
def kZ (fuel:Nat) (p0:List (List (Int×Int))) (p1:List (List (Int))) (a6:Int) (ag5:(Int)->Option (Bool)):Option (Bool):=
 if a6<(List.length p0:Int)then(ck (0<=a6∧a6<(List.length p0:Int)) (ck (0<=a6∧a6<(List.length p1:Int)) (Option.bind (qM fuel (at' p0 a6) (at' p1 a6)) fun r12=>(if(!r12)=true then(some (false))else(ag5 (wI .i64 (a6+(1:Int))))))))else(q_  (()))
def pF (fuel:Nat) (p0:List (List (Int×Int))) (p1:List (List (Int))):Option (Bool):=
 if(List.length p1:Int)≠(List.length p0:Int)then(some (false))else(bG (kZ fuel p0 p1) fuel (0:Int))
theorem Tn:aR Tryz.prog 109:=Tryz.call109
theorem EC (fuel:Nat) {p0:List (List (Int×Int))} {p1:List (List (Int))} (v0:Value)  (z1:List (Value×List (Int×Int)))  (v2:Value)  (z3:List (Value×List (Int))) (r:Bool) (h:pF fuel p0 p1=some r):
  aV Tryz.prog 109 #[v0,v2] [S2 aZ v0 z1 p0,S2 bM v2 z3 p1] (fun x:Unit=>Value.bool (r)) (fun x l=>l) (fun _ l=>l):=by
 refine aV.of Tryz.func109 rfl Tryz.ntmps109 rfl fun c=>?_
 unfold pF at h
 refine sqR<|qkAsg rfl<|dtN<|aL<|sqR<|qkMove rfl<|aB (iX rfl (aC.fact 1 rfl) rfl) rfl<|qkMove rfl<|aB (iX rfl (aC.fact 0 rfl) rfl) rfl<|aB (kR rfl rfl) rfl<|dtN ?_
 refine eL h rfl (fun h=>?_) fun h=>?_
 ·refine sqR<|qkAsg rfl<|dtN<|aS<|aJ ?_
  cases h
  exact lP rfl
 refine iV<|aL<|midU (fun a2=>q_  a2=some r) (fun a2 b3=>[]) (fun a2 b3=>[]) ?_ ?_
 ·refine sqR<|qkMove rfl<|aB (iX rfl (aC.fact 0 rfl) rfl) rfl<|qkMove rfl<|dtN<|aQ<|loopL (kZ fuel p0 p1) (fun a6 b7=>[(1,v2),(12,v0),(13,vI (List.length p0:Int)),(14,vI (a6))]) (fun a6 b7=>[]) (0:Int) () h SF (aK.refl _) ?_
  clear h
  intro k8 a6 b7 h
  unfold kZ at h
  refine sqR<|qkLss rfl<|dtN<|aL ?_
  refine eL h rfl (fun h=>?_) fun h=>?_
  ·refine iV<|aL<|aQ<|sqR<|qkMove rfl ?_
   have⟨j10,h⟩:=aH h
   refine aB (cO rfl rfl (aC.fact 0 rfl) rfl rfl j10) rfl<|aB (cM rfl (aC.fact 0 rfl) rfl rfl j10) rfl<|qkAsg rfl<|qkAsg rfl<|dtN<|sqR<|qkMove rfl<|qkMove rfl<|qkMove rfl ?_
   have⟨j11,h⟩:=aH h
   refine aB (cO rfl rfl (aC.fact 1 rfl) rfl rfl j11) rfl<|aB (cM rfl (aC.fact 1 rfl) rfl rfl j11) rfl ?_
   have⟨r12,w13,h⟩:=fE h
   refine aG (aM.callQ Tw (GD fuel ((at' z1 a6).1) ((at' z3 a6).1) r12 w13) rfl (aA.cons (aC.el (aC.fact 0 rfl) j10.1 j10.2) (aA.cons (aC.el (aC.fact 1 rfl) j11.1 j11.2) .nil))) rfl fun x14=>aB (oD rfl) rfl<|dtN ?_
   refine zJ h rfl (fun _ h=>?_) fun _ h=>?_
   ·refine sqR<|qkAsg rfl<|dtN<|aS<|bK<|aJ<|aJ<|bK<|aJ ?_
    cases h
    exact lP rfl
   refine cU<|inT<|aO<|qkAdd rfl<|qkMove rfl<|dtN ?_
   exact xK (wI .i64 (a6+(1:Int))) () h SF rfl
  refine xO ?_
  exact iJ () (()) h SF rfl
 clear h
 intro a2 b3 h
 unfold q_ at h
 refine sqR<|qkAsg rfl<|dtN<|aS ?_
 cases h
 exact lP rfl
end Go.Proofs.YtigggfnchamobaaGreatDoor
end
section
namespace Go.Proofs.YtigggfnchamobaaGreatDoor
open Go.Sx
def oA (fuel:Nat) (p0:ByteArray×(List (ByteArray×Int×Int×Int×Int×Int))×(List (ByteArray×(Value×List (Int×Int))×(Value×List (Int×(Value×List (Int×Int))))))) (p1:List (Int)×(List (List (Int×Int)))) (p2:List (List (Int))):Option (Int):=
 Option.bind (pO fuel ((p0.1,p0.2.1,p0.2.2)) ((p1.1,p1.2))) fun r3=>(if r3≠(0:Int)then(some (r3))else(Option.bind (jT fuel ((p0.1,p0.2.1,p0.2.2)) ((p1.1,p1.2))) fun r7=>(Option.bind (pF fuel r7 p2) fun r10=>(if(!r10)=true then(some (10:Int))else(some (0:Int))))))
theorem Wa:aR Tryz.prog 78:=Tryz.call78
theorem GC (fuel:Nat) {p0:ByteArray×(List (ByteArray×Int×Int×Int×Int×Int))×(List (ByteArray×(Value×List (Int×Int))×(Value×List (Int×(Value×List (Int×Int))))))} {p1:List (Int)×(List (List (Int×Int)))} {p2:List (List (Int))} (v0:Value)  (v1:Value)  (v2:Value)  (v3:Value)  (z4:List (Value×List (Int×Int)))  (v5:Value)  (z6:List (Value×List (Int))) (r:Int) (h:oA fuel p0 p1 p2=some r):
  aV Tryz.prog 78 #[Value.agg #[Value.string (p0.1),v0,v1],Value.agg #[v2,v3],v5] [Sl aP v0 p0.2.1,Sl aI v1 p0.2.2,PF (Value.agg #[Value.string p0.1,v0,v1]),Sl bM v2 p1.1,S2 aZ v3 z4 p1.2,S2 bM v5 z6 p2] (fun x:Unit=>vI (r)) (fun x l=>l) (fun _ l=>l):=by
 refine aV.of Tryz.func78 rfl Tryz.ntmps78 rfl fun c=>?_
 unfold oA at h
 refine sqR<|aG (aM.box (cs:=[Value.string (p0.1),v0,v1]) rfl rfl) rfl fun b1=>aG (aM.box (cs:=[v2,v3]) rfl rfl) rfl fun b2=>qkAsg rfl<|dtN<|aL<|sqR<|qkLdA 1 rfl<|qkLdA 0 rfl ?_
 have⟨r3,w4,h⟩:=fE h
 refine aG (aM.callQ Tm (GX fuel v0 v1 v2 v3 z4 r3 w4) rfl (aA.cons (aC.fact 0 rfl) (aA.cons (aC.fact 1 rfl) (aA.cons (aC.fact 2 rfl) (aA.cons (aC.fact 3 rfl) (aA.cons (aC.fact 4 rfl) .nil)))))) rfl fun x5=>qkAsg rfl<|dtN<|sqR<|qkMove rfl<|aB (kR rfl rfl) rfl<|dtN ?_
 refine eL h rfl (fun h=>?_) fun h=>?_
 ·refine sqR<|qkMove rfl<|qkAsg rfl<|dtN<|aS<|aJ ?_
  cases h
  exact vJ rfl
 refine iV<|aL<|sqR<|qkLdA 1 rfl<|qkLdA 0 rfl ?_
 have⟨r7,w8,h⟩:=fE h
 refine aG (aM.callQ Qn (AZ fuel v0 v1 v2 v3 z4 r7 w8) rfl (aA.cons (aC.fact 0 rfl) (aA.cons (aC.fact 1 rfl) (aA.cons (aC.fact 2 rfl) (aA.cons (aC.fact 3 rfl) (aA.cons (aC.fact 4 rfl) .nil)))))) rfl fun x9=>qkMove rfl ?_
 have⟨r10,w11,h⟩:=fE h
 refine aG (aM.callQ Tn (EC fuel x9.1 (List.zip x9.2 r7) v5 z6 r10 w11) rfl (aA.cons (bD (i:=0) (j:=1) rfl rfl bJ) (aA.cons (aC.fact 5 rfl) .nil))) rfl fun x12=>aB (oD rfl) rfl<|dtN ?_
 refine zJ h rfl (fun _ h=>?_) fun _ h=>?_
 ·refine sqR<|qkAsg rfl<|dtN<|aS<|aJ ?_
  cases h
  exact vJ rfl
 refine iV<|sqR<|qkAsg rfl<|dtN<|aS ?_
 cases h
 exact vJ rfl
end Go.Proofs.YtigggfnchamobaaGreatDoor
end
section
namespace Go.Proofs.YtigggfnchamobaaGreatDoor
open Go.Sx
def uG  (a5:List (List (Int))):Option (List (List (Int))):=
 some (a5)
def oC (p0:List (List (Int))) (a11:Int×List (List (Int))) (ag10:(Int×List (List (Int)))->Option (List (List (Int)))):Option (List (List (Int))):=
 if a11.1<(List.length p0:Int)then(ck (0<=a11.1∧a11.1<(List.length p0:Int)) (ck ((List.length ([]:List Int):Int)+(List.length (at' p0 a11.1):Int)<=1099511627) (ck (0<=a11.1∧a11.1<(List.length a11.2:Int)) (ag10 ((wI .i64 (a11.1+(1:Int))),(List.set a11.2 (Int.toNat a11.1) (([]:List Int)++(at' p0 a11.1))))))))else(uG  (a11.2))
def pQ (fuel:Nat) (p0:List (List (Int))):Option (List (List (Int))):=
 ck (0<=(List.length p0:Int)∧(List.length p0:Int)<=1099511627) (bG (oC p0) fuel ((0:Int),(List.replicate (Int.toNat (List.length p0:Int)) ([]:List Int))))
theorem MR:aR Tryz.prog 110:=Tryz.call110
theorem BW (fuel:Nat) {p0:List (List (Int))} (v0:Value)  (z1:List (Value×List (Int))) (r:List (List (Int))) (h:pQ fuel p0=some r):
  aV Tryz.prog 110 #[v0] [S2 bM v0 z1 p0] (fun x:Value×List Value=>x.1) (fun x l=>Ar dJ.raw x.1 x.2::jG bY x.2 r::l) (fun _ l=>l):=by
 refine aV.of Tryz.func110 rfl Tryz.ntmps110 rfl fun c=>?_
 unfold pQ at h
 refine sqR<|qkAsg rfl<|dtN<|sqR<|qkMove rfl<|aB (iX rfl (aC.fact 0 rfl) rfl) rfl ?_
 have⟨j1,h⟩:=aH h
 refine jJ (vO bY (Int.toNat (List.length p0:Int)))<|aG (oH (e:=dJ.raw) (Value.slice none 0 0) rfl rfl rfl rfl j1 rfl rfl rfl) rfl fun u2=>qkAsg rfl<|dtN<|aL<|midL (B:=List Value) (fun a5=>uG  a5=some r) (fun a5 b6=>[(3,u2)]) (fun a5 b6=>[Ar dJ.raw u2 b6,jG bY b6 a5]) ?_ ?_
 ·refine sqR<|qkMove rfl<|aB (iX rfl (aC.fact 0 rfl) rfl) rfl<|qkMove rfl<|dtN<|aQ<|loopL (B:=List Value) (oC p0) (fun a11 b12=>[(3,u2),(9,v0),(10,vI (List.length p0:Int)),(11,vI (a11.1))]) (fun a11 b12=>[Ar dJ.raw u2 b12,jG bY b12 a11.2]) ((0:Int),(List.replicate (Int.toNat (List.length p0:Int)) ([]:List Int))) (List.replicate (Int.toNat (List.length p0:Int)) (Value.slice none 0 0)) h SF (aK.refl _) ?_
  clear h
  intro k13 a11 b12 h
  unfold oC at h
  refine sqR<|qkLss rfl<|dtN<|aL ?_
  refine eL h rfl (fun h=>?_) fun h=>?_
  ·refine iV<|aL<|aQ<|sqR<|qkMove rfl ?_
   have⟨j15,h⟩:=aH h
   refine aB (cO rfl rfl (aC.fact 0 rfl) rfl rfl j15) rfl<|aB (cM rfl (aC.fact 0 rfl) rfl rfl j15) rfl<|qkAsg rfl<|qkAsg rfl<|dtN<|aO<|qkMove rfl<|qkMove rfl<|qkMove rfl<|jJ (iW bY) ?_
   have⟨j17,h⟩:=aH h
   refine aG (gM 0 cI rfl rfl rfl (aC.el (aC.fact 0 rfl) j15.1 j15.2) rfl rfl rfl rfl j17 rfl) rfl fun u16=>?_
   have⟨j18,h⟩:=aH h
   refine aB (cO rfl rfl (bD (i:=1) (j:=2) rfl rfl cI) rfl rfl j18) rfl<|bZ (Know.one ((aU (aC.res 0 rfl) cI))) fun ho19=>jJ (uT (k:=a11.1) 2 0 rfl rfl rfl j18) ?_
   refine oG 0 1 ⟨j18.1,by first|exact j18.2|simpa using j18.2⟩ rfl rfl rfl rfl rfl (by simp) ho19 rfl ?_
   refine dY<|inT<|aO<|qkAdd rfl<|qkMove rfl<|dtN ?_
   exact xK ((wI .i64 (a11.1+(1:Int))),(List.set a11.2 (Int.toNat a11.1) (([]:List Int)++(at' p0 a11.1)))) (List.set b12 (Int.toNat a11.1) u16) h SF rfl
  refine xO ?_
  exact iJ (a11.2) (b12) h SF rfl
 clear h
 intro a5 b6 h
 unfold uG at h
 refine sqR<|qkMove rfl<|qkAsg rfl<|dtN<|aS ?_
 cases h
 exact fQ (u2,b6) rfl rfl (RV.tmp rfl) (aK.refl _) aA.nil
end Go.Proofs.YtigggfnchamobaaGreatDoor
end
section
namespace Go.Proofs.YtigggfnchamobaaGreatDoor
open Go Go.Sx
abbrev Eu:=ByteArray×(List EI)×(List wC)
structure Cd (g:GR) (vars:List EI):Prop where
 len:vars.length<=20
 small:∀x,x<vars.length->AD (at' vars (x:Int))
 kind:∀x,x<vars.length->(at' vars (x:Int)).2.1=1∨(at' vars (x:Int)).2.1=2∨(at' vars (x:Int)).2.1=3
 range:∀x,x<vars.length->(at' vars (x:Int)).2.1=1 -> -100000<=lo g (at' vars (x:Int)) 0∧lo g (at' vars (x:Int)) 0<=hi g (at' vars (x:Int)) 0∧hi g (at' vars (x:Int)) 0 - lo g (at' vars (x:Int)) 0+1<=4096
theorem WK {g:GR} (hV:VG g):uF 1000 g.1=some (kL g g.1.length):=by
 have h24:=hV.n24
 have hlen:=hV.len
 have h1:=hV.n1
 have hid:0<=at' g.1 ((0:Nat):Int):=(hV.node 0 (by omega)).id.1
 unfold uF
 rw[if_neg (by omega),dK (by omega)]
 have:=dW (step:=pR g.1) (K:=some (kL g g.1.length)) (g.1.length - 1) (fun k=>(kL g (k+1),((k+1:Nat):Int))) (fun k ag hk=>by
  unfold pR
  dsimp only
  rw[if_pos (by omega),dK (by omega),eW (by omega)];rfl) (fun ag=>by
  unfold pR vK
  dsimp only
  rw[if_neg (by omega),show g.1.length - 1+1=g.1.length by omega]) 1000 (by omega)
 have e:kL g (0+1)=at' g.1 (0:Int):=by
  show max (kL g 0) (at' g.1 ((0:Nat):Int))=_
  simp only[kL]
  have:at' g.1 ((0:Nat):Int)=at' g.1 (0:Int):=rfl
  omega
 rw[e]at this
 exact this
theorem Hp {g:GR} (hV:VG g) {x:EI} (hs:AD x) (hk:x.2.1=1∨x.2.1=2∨x.2.1=3) {v:Nat} (hv:v<g.2.length):iM 1000 x g (v:Int)=some (lo g x v,hi g x v):=by
 obtain⟨⟨s1,s2⟩,⟨s3,s4⟩,s5,s6⟩:=hs
 have h24:=hV.n24
 have hlen:=hV.len
 have hm:=Gk hV g.1.length (by omega)
 have p1:0<=x.2.2.2.2.1*(g.1.length:Int):=Int.mul_nonneg s3 (by omega)
 have p2:x.2.2.2.2.1*(g.1.length:Int)<=100000*24:=Int.mul_le_mul s4 (by omega) (by omega) (by omega)
 have p3:0<=x.2.2.2.2.2*kL g g.1.length:=Int.mul_nonneg s5 hm.1
 have p4:x.2.2.2.2.2*kL g g.1.length<=100000*255:=Int.mul_le_mul s6 hm.2 hm.1 (by omega)
 have b1:jZ 1000 x g (v:Int)=some (x.2.2.1,x.2.2.2.1+x.2.2.2.2.1*(g.2.length:Int)+x.2.2.2.2.2*kL g g.1.length):=by
  unfold jZ
  rw[bH (WK hV),wr (x:=x.2.2.2.2.1*_) (by omega) (by omega),wr (x:=x.2.2.2.2.2*_) (by omega) (by omega),wr (x:=x.2.2.2.1+_) (by omega) (by omega),wr (by omega) (by omega),hlen]
 have b3:j_ 1000 x g (v:Int)=some (-1,((row g v).length:Int) - 1):=by
  have hdeg:=(hV.node v hv).deg
  unfold j_
  rw[dK (by omega)]
  show some ((-1:Int),wI .i64 (((row g v).length:Int) - 1))=_
  rw[wr (by omega) (by omega)]
 have it:∀(f:Nat) (a:Int),bG (dC 1000 x g (v:Int)) (f+1) a=dC 1000 x g (v:Int) a (bG (dC 1000 x g (v:Int)) f):=fun f a=>rfl
 have st:∀(f:Nat) (a:Int),a=0∨a=1∨a=2->bG (dC 1000 x g (v:Int)) (f+1) a=if a=0 then(if 1=x.2.1 then jZ 1000 x g (v:Int)else bG (dC 1000 x g (v:Int)) f 1)else if a=1 then(if 2=x.2.1 then pX 1000 x g (v:Int)else bG (dC 1000 x g (v:Int)) f 2)else(if 3=x.2.1 then j_ 1000 x g (v:Int)else bG (dC 1000 x g (v:Int)) f 3):=by
  intro f a ha
  rw[it]
  generalize bG (dC 1000 x g (v:Int)) f=G
  unfold dC kX
  rcases ha with rfl|rfl|rfl
  ·rw[if_pos (by decide),dK (by decide),if_pos rfl,if_pos rfl]
   split
   ·rw[b1];rfl
   ·rfl
  ·rw[if_pos (by decide),dK (by decide),if_neg (show¬(1:Int)=0 by decide),if_pos rfl,if_neg (show¬(1:Int)=0 by decide),if_pos rfl]
   split
   ·rfl
   ·rfl
  ·rw[if_pos (by decide),dK (by decide),if_neg (show¬(2:Int)=0 by decide),if_neg (show¬(2:Int)=1 by decide),if_neg (show¬(2:Int)=0 by decide),if_neg (show¬(2:Int)=1 by decide)]
   split
   ·rw[b3];rfl
   ·rfl
 unfold iM lo hi
 rcases hk with h|h|h
 ·rw[st 999 0 (.inl rfl),if_pos rfl,if_pos h.symm,b1,h,if_neg (by decide),if_neg (by decide),if_neg (by decide),if_neg (by decide)]
 ·rw[st 999 0 (.inl rfl),if_pos rfl,if_neg (by omega),st 998 1 (.inr (.inl rfl)),if_neg (by decide),if_pos rfl,if_pos h.symm,h,if_pos rfl,if_pos rfl];rfl
 ·rw[st 999 0 (.inl rfl),if_pos rfl,if_neg (by omega),st 998 1 (.inr (.inl rfl)),if_neg (by decide),if_pos rfl,if_neg (by omega),st 997 2 (.inr (.inr rfl)),if_neg (by decide),if_neg (by decide),if_pos h.symm,b3,h,if_neg (by decide),if_pos rfl,if_neg (by decide),if_pos rfl]

def FK (g:GR) (vars:List EI) (v x:Nat):Int×Int:=(lo g (at' vars (x:Int)) v,hi g (at' vars (x:Int)) v)
def BJ (g:GR) (vars:List EI) (v:Nat):List (Int×Int):=(List.range vars.length).map (FK g vars v)
def Ab (g:GR) (vars:List EI):List (List (Int×Int)):=(List.range g.2.length).map (BJ g vars)
theorem yZ {α:Type} [Inhabited α] (f:Nat->α) {n k:Nat} (h:k<n):at' ((List.range n).map f) (k:Int)=f k:=by
 rw[kA (by simpa using h)];simp
theorem vH {α:Type} (f:Nat->α) (z:α) (n k:Nat) (h:k<n):((List.range k).map f++List.replicate (n - k) z).set k (f k)=(List.range (k+1)).map f++List.replicate (n - (k+1)) z:=by
 rw[show n - k=(n - (k+1))+1 by omega,List.replicate_succ,List.set_append_right _ _ (by simp),List.range_succ]
 simp
theorem KN {g:GR} (hV:VG g) {p:Eu} (hp:Cd g p.2.1):jT 1000 p g=some (Ab g p.2.1):=by
 have h24:=hV.n24
 have hlen:=hV.len
 have hvl:=hp.len
 let vars:=p.2.1
 let Q:Nat->List (List (Int×Int)):=fun k=>(List.range k).map (BJ g vars)++List.replicate (g.2.length - k) []
 have hQl:∀k,k<=g.2.length->(Q k).length=g.2.length:=fun k hk=>by simp[Q];omega
 let R:Nat->Nat->List (Int×Int):=fun k j=>(List.range j).map (FK g vars k)++List.replicate (vars.length - j) (0,0)
 have hRl:∀k j,j<=vars.length->(R k j).length=vars.length:=fun k j hj=>by simp[R];omega
 unfold jT
 rw[dK (by omega)]
 rw[show List.replicate (Int.toNat (g.1.length:Int)) ([]:List (Int×Int))=Q 0 by simp[Q,hlen]]
 refine dW (step:=iL 1000 p g) (K:=some (Ab g vars)) g.2.length (fun k=>((k:Int),Q k)) (fun k ag hk=> ?_) (fun ag=> ?_) 1000 (by omega)
 ·unfold iL
  dsimp only
  rw[if_pos (by simp;omega),dK (by omega),dK (by rw[hQl k (by omega)];omega)]
  refine Eq.trans (?_:_=bG (kB 1000 p g ((k:Int),Q k) ag) 1000 ((0:Int),(Q k).set k (R k 0))) ?_
  ·rw[Int.toNat_natCast,Int.toNat_natCast];simp[R,vars]
  refine dW (step:=kB 1000 p g ((k:Int),Q k) ag) (K:=ag (((k+1:Nat):Int),Q (k+1))) vars.length (fun j=>((j:Int),(Q k).set k (R k j))) (fun j ag2 hj=> ?_) (fun ag2=> ?_) 1000 (by show p.2.1.length<1000;omega)
  ·have hj':j<p.2.1.length:=hj
   have hb:=Hp hV (hp.small j hj) (hp.kind j hj) hk
   have hq:k<(Q k).length:=by rw[hQl k (by omega)];exact hk
   have a1:∀X:List (Int×Int),at' ((Q k).set k X) (k:Int)=X:=fun X=>by rw[AI _ _ _ _ hq,if_pos rfl]
   have hRj:j<(R k j).length:=by rw[hRl k j (by omega)];exact hj
   unfold kB
   dsimp only
   rw[if_pos (by omega),dK (by omega),dK (by simp only[List.length_set];omega),dK (by simp only[List.length_set];omega),bH (show iM 1000 _ g (k:Int)=_ from hb),Int.toNat_natCast,Int.toNat_natCast]
   simp only[a1,List.set_set]
   rw[dK (by omega),dK (by simp only[List.length_set];omega),eW (by omega)]
   have:(R k j).set j (lo g (at' p.2.1 (j:Int)) k,hi g (at' p.2.1 (j:Int)) k)=R k (j+1):=vH (FK g vars k) (0,0) vars.length j hj
   rw[AI _ _ _ _ hRj,if_pos rfl]
   dsimp only
   rw[this]
  ·unfold kB sF
   dsimp only
   rw[if_neg (show¬((vars.length:Nat):Int)<(p.2.1.length:Int)from Int.lt_irrefl _),eW (by omega)]
   have e1:R k vars.length=BJ g vars k:=by simp[R,BJ]
   have e2:(Q k).set k (BJ g vars k)=Q (k+1):=vH (BJ g vars) [] g.2.length k hk
   rw[e1,e2]
 ·unfold iL sE
  dsimp only
  rw[if_neg (by simp;omega)]
  simp[Q,Ab]
theorem Ud {g:GR} (hV:VG g) {p:Eu} (hp:Cd g p.2.1):pO 1000 p g=some 0:=by
 have h1:=hV.n1
 have hvl:=hp.len
 unfold pO
 rw[bH (show yH 1000 _=some true from rfl),if_neg (by decide),bH (show eI 1000 g=some true from(zB g).1 hV),if_neg (by decide)]
 refine dW (step:=jR 1000 p g) (K:=some 0) p.2.1.length (fun k=>(k:Int)) (fun k ag hk=> ?_) (fun ag=> ?_) 1000 (by omega)
 ·unfold jR nU qG nU
  rw[if_pos (by omega),dK (by omega),eW (by omega)]
  by_cases hk1:(at' p.2.1 (k:Int)).2.1=1
  ·obtain⟨r1,r2,r3⟩:=hp.range k hk hk1
   have hb:=Hp hV (hp.small k hk) (hp.kind k hk) (v:=0) (by omega)
   rw[if_neg (by simpa using hk1),bH (show iM 1000 _ g (0:Int)=_ from hb)]
   dsimp only
   rw[if_neg (by omega),wr (x:=hi g (at' p.2.1 (k:Int)) 0 - lo g (at' p.2.1 (k:Int)) 0) (by omega) (by omega),wr (by omega) (by omega),if_neg (by rw[decide_eq_true_eq];omega)]
  ·rw[if_pos hk1]
 ·unfold jR tX
  rw[if_neg (by omega)]

theorem Sc {g:GR} {vars:List EI} (hl:vars.length<=20) {v:Nat} {l:List Int} (h1:l.length=vars.length) (h2:∀x,x<vars.length->lo g (at' vars (x:Int)) v<=at' l (x:Int)∧at' l (x:Int)<=hi g (at' vars (x:Int)) v):qM 1000 (BJ g vars v) l=some true:=by
 have hr:(BJ g vars v).length=vars.length:=by simp[BJ]
 unfold qM
 rw[if_neg (by rw[hr,h1];simp)]
 refine dW (step:=kC (BJ g vars v) l) (K:=some true) l.length (fun k=>(k:Int)) (fun k ag hk=> ?_) (fun ag=> ?_) 1000 (by omega)
 ·have hc:at' (BJ g vars v) (k:Int)=FK g vars v k:=yZ _ (by omega)
  have:=h2 k (by omega)
  unfold kC pH
  rw[if_pos (by omega),dK (by omega),dK (by omega),hc]
  rw[if_neg (show¬at' l (k:Int)<(FK g vars v k).1 from Int.not_lt.2 this.1),dK (by omega),if_neg (by rw[decide_eq_true_eq];exact Int.not_lt.2 this.2),eW (by omega)]
 ·unfold kC sK
  rw[if_neg (by omega)]
theorem Qs {g:GR} (hV:VG g) {p:Eu} (hp:Cd g p.2.1) {c:List (List Int)} (hc:UZ g c p.2.1):oA 1000 p g c=some 0:=by
 have h24:=hV.n24
 have ht:(Ab g p.2.1).length=g.2.length:=by simp[Ab]
 have hcl:=hc.len
 unfold oA
 rw[bH (show pO 1000 _ _=some 0 from Ud hV hp),if_neg (by decide),bH (show jT 1000 _ _=_ from KN hV hp)]
 have:pF 1000 (Ab g p.2.1) c=some true:=by
  unfold pF
  rw[if_neg (by rw[ht,hcl];simp)]
  refine dW (step:=kZ 1000 (Ab g p.2.1) c) (K:=some true) g.2.length (fun k=>(k:Int)) (fun k ag hk=> ?_) (fun ag=> ?_) 1000 (by omega)
  ·have hr:at' (Ab g p.2.1) (k:Int)=BJ g p.2.1 k:=yZ _ hk
   unfold kZ
   rw[if_pos (by omega),dK (by omega),dK (by omega),hr,bH (Sc hp.len (hc.row k hk) (hc.ok k hk)),if_neg (by decide),eW (by omega)]
  ·unfold kZ q_
   rw[if_neg (by omega)]
 rw[bH this,if_neg (by decide)]
theorem Nc (c:List (List Int)) (h:c.length<=900) (hr:∀v,v<c.length->(at' c (v:Int)).length<=1000):pQ 1000 c=some c:=by
 unfold pQ
 rw[dK (by omega)]
 let Q:Nat->List (List Int):=fun k=>(List.range k).map (fun v:Nat=>at' c (v:Int))++List.replicate (c.length - k) []
 rw[show List.replicate (Int.toNat (c.length:Int)) ([]:List Int)=Q 0 by simp[Q]]
 refine dW (step:=oC c) (K:=some c) c.length (fun k=>((k:Int),Q k)) (fun k ag hk=> ?_) (fun ag=> ?_) 1000 (by omega)
 ·have hQ:(Q k).length=c.length:=by simp[Q];omega
  have:=hr k hk
  unfold oC
  dsimp only
  rw[if_pos (by omega),dK (by omega),dK (by simp;omega),dK (by omega),eW (by omega),Int.toNat_natCast,List.nil_append]
  have:(Q k).set k (at' c (k:Int))=Q (k+1):=vH (fun v:Nat=>at' c (v:Int)) [] c.length k hk
  rw[this]
 ·unfold oC uG
  dsimp only
  rw[if_neg (by omega)]
  congr 1
  refine List.ext_getElem (by simp[Q]) fun i h1 h2=> ?_
  simp[Q,kA h2]
end Go.Proofs.YtigggfnchamobaaGreatDoor
end
section
namespace Go.Proofs.YtigggfnchamobaaGreatDoor
open Go Go.Sx
def Yy (x:Int):Int:=max (-1073741824) (min x 1073741824)
def unD (o x:Int):Int:=if o=18 then wI .i64 (0 - x)else Iq (decide (x=0))
def UC (a b:Int):Int:=if b=0 then 0 else if Int.tmod a b≠0∧((decide (a<0)) != (decide (b<0)))=true then wI .i64 (wI .i64 (Int.tdiv a b) - 1)else wI .i64 (Int.tdiv a b)
def Wk (o x y:Int):Bool:=if o=35 then decide (x=y)else if o=36 then decide (x≠y)else if o=37 then decide (x<y)else if o=38 then decide (x<=y)else if o=39 then decide (y<x)else decide (y<=x)
def YX (o x y:Int):Int:=
 if o=30 then Yy (wI .i64 (x*y))else if o=31 then Yy (UC x y)else if o=32 then(if y=0 then 0 else Yy (wI .i64 (x - wI .i64 (y*UC x y))))else if o=33 then Yy (wI .i64 (x+y))else if o=34 then Yy (wI .i64 (x - y))
 else if o=41 then Iq (decide (x≠0)&&decide (y≠0))else if o=42 then Iq (decide (x≠0)||decide (y≠0))else Iq (Wk o x y)
theorem Sf (f:Nat) (o x:Int):uD f o x=some (unD o x):=by
 unfold uD unD
 split
 ·rfl
 ·rw[bH (r_ f _)]
theorem RP (f:Nat) (a b:Int):mE f a b=some (UC a b):=by
 unfold mE UC
 by_cases hb:b=0
 ·rw[if_pos hb,if_pos hb]
 ·rw[if_neg hb,if_neg hb,dK hb,dK hb]
  by_cases h1:Int.tmod a b=0
  ·rw[if_neg (by simpa using h1),if_neg (by simp[h1])];rfl
  ·rw[if_pos h1]
   unfold nY nX
   by_cases h2:((decide (a<0)) != (decide (b<0)))=true
   ·rw[if_pos h2,if_pos ⟨h1,h2⟩]
   ·rw[if_neg h2,if_neg (fun q=>h2 q.2)]
theorem Wl (f:Nat) (o x y:Int):pE f o x y=some (Wk o x y):=by
 unfold pE Wk
 repeat' split
 all_goals rfl
theorem On (f:Nat) (o x y:Int):rU f o x y=some (YX o x y):=by
 unfold rU YX
 by_cases h:o=30
 ·rw[if_pos h,if_pos h];rfl
 rw[if_neg h,if_neg h]
 by_cases h:o=31
 ·rw[if_pos h,if_pos h,bH (RP f x y)];rfl
 rw[if_neg h,if_neg h]
 by_cases h:o=32
 ·rw[if_pos h,if_pos h]
  by_cases hy:y=0
  ·rw[if_pos hy,if_pos hy]
  ·rw[if_neg hy,if_neg hy,bH (RP f x y)];rfl
 rw[if_neg h,if_neg h]
 by_cases h:o=33
 ·rw[if_pos h,if_pos h];rfl
 rw[if_neg h,if_neg h]
 by_cases h:o=34
 ·rw[if_pos h,if_pos h];rfl
 rw[if_neg h,if_neg h]
 by_cases h:o=41
 ·rw[if_pos h,if_pos h]
  by_cases hx:x=0
  ·rw[if_neg (by simpa using hx),bH (r_ f _)];simp[hx,nV]
  ·rw[if_pos hx,bH (r_ f _)];simp[hx,nV]
 rw[if_neg h,if_neg h]
 by_cases h:o=42
 ·rw[if_pos h,if_pos h]
  by_cases hx:x=0
  ·rw[if_neg (by simpa using hx),bH (r_ f _)];simp[hx,nW]
  ·rw[if_pos hx,bH (r_ f _)];simp[hx,nW]
 rw[if_neg h,if_neg h,bH (Wl f o x y),bH (r_ f _)]
def E.den (L:Int->Int->Int->Int) (deg:Nat):E->Int->Int
 |lf o a,p=>L o a p
 |un o x,p=>unD o (x.den L deg p)
 |ag o x,_=>Nj o ((List.range deg).map fun q=>x.den L deg ((q:Nat):Int))
 |bi o x y,p=>YX o (x.den L deg p) (y.den L deg p)
 |ite x y z,p=>if x.den L deg p≠0 then y.den L deg p else z.den L deg p
def E.wf (nv:Nat):Bool->E->Bool
 |b,lf o a=>decide (1<=o)&&decide (o<=16)&&(b||decide (o<=10))&&((decide (o≠5)&&decide (o≠12))||(decide (0<=a)&&decide (a<(nv:Int))))
 |b,un o x=>decide (18<=o)&&decide (o<=19)&&x.wf nv b
 |_,ag o x=>(decide (o=20)||decide (o=21)||decide (o=22)||decide (o=23)||decide (o=24)||decide (o=27))&&x.wf nv true
 |b,bi o x y=>decide (30<=o)&&decide (o<=42)&&x.wf nv b&&y.wf nv b
 |b,ite x y z=>x.wf nv b&&y.wf nv b&&z.wf nv b
theorem SN {nv:Nat}:∀{e:E} {b:Bool},e.wf nv b=true->e.arOk=true:=by
 intro e
 induction e with
 |lf o a=>intro b h;simp[E.wf,E.arOk]at h ⊢;omega
 |un o x ih=>intro b h;simp[E.wf,E.arOk]at h ⊢;exact⟨h.1,ih h.2⟩
 |ag o x ih=>intro b h;simp[E.wf,E.arOk]at h ⊢;exact⟨by omega,ih h.2⟩
 |bi o x y ihx ihy=>intro b h;simp[E.wf,E.arOk]at h ⊢;exact⟨⟨h.1.1,ihx h.1.2⟩,ihy h.2⟩
 |ite x y z ihx ihy ihz=>intro b h;simp[E.wf,E.arOk]at h ⊢;exact⟨⟨ihx h.1.1,ihy h.1.2⟩,ihz h.2⟩
def Rt (W:XO) (p:Int):Int:=(at' (at' W.1.2.1.2 W.2.2.1) p).1
def Vh (W:XO) (o a p:Int):Int:=
 if o=1 then a else if o=2 then 1 else if o=3 then 0 else if o=4 then -1 else if o=5 then at' (at' W.2.1 W.2.2.1) a else if o=12 then at' (at' W.2.1 (Rt W p)) a
 else if o=6 then(W.1.2.1.1.length:Int)else if o=7 then W.1.2.2.1 else if o=8 then at' W.1.2.1.1 W.2.2.1 else if o=9 then((at' W.1.2.1.2 W.2.2.1).length:Int)else if o=10 then Iq (decide (W.2.2.1=0))else if o=11 then p
 else if o=13 then at' W.1.2.1.1 (Rt W p)else if o=14 then((at' W.1.2.1.2 (Rt W p)).length:Int)else if o=15 then Iq (decide (Rt W p=0))else(at' (at' W.1.2.1.2 W.2.2.1) p).2
structure YW (W:XO) (nv n v:Nat):Prop where
 node:W.2.2.1=(v:Int)
 lt:v<n
 ports:W.1.2.1.2.length=n
 ids:W.1.2.1.1.length=n
 c:W.2.1.length=n
 row:∀u:Nat,u<n->(at' W.2.1 (u:Int)).length=nv
 to:∀u:Nat,u<n->∀i:Nat,i<(at' W.1.2.1.2 (u:Int)).length->0<=(at' (at' W.1.2.1.2 (u:Int)) (i:Int)).1∧(at' (at' W.1.2.1.2 (u:Int)) (i:Int)).1<(n:Int)
def PL (b:Bool) (deg:Nat) (p:Int):Prop:=b=true->∃q:Nat,p=(q:Int)∧q<deg
theorem Ut {W:XO} {nv n v:Nat} (h:YW W nv n v) (f:Nat) {b:Bool} {o a p:Int} (hw:(E.lf o a).wf nv b=true) (hp:PL b (at' W.1.2.1.2 (v:Int)).length p):iH f W (o,a) p=some (Vh W o a p):=by
 obtain⟨hv,hlt,h1,h2,h3,h4,h5⟩:=h
 simp only[E.wf,Bool.and_eq_true,Bool.or_eq_true,decide_eq_true_eq]at hw
 obtain⟨⟨⟨w1,w2⟩,w3⟩,w4⟩:=hw
 have hvr:(at' W.2.1 (v:Int)).length=nv:=h4 v hlt
 unfold iH Vh Rt
 dsimp only
 rw[hv]
 by_cases e:o=1
 ·simp only[if_pos e]
 simp only[if_neg e]
 by_cases e:o=2
 ·simp only[if_pos e]
 simp only[if_neg e]
 by_cases e:o=3
 ·simp only[if_pos e]
 simp only[if_neg e]
 by_cases e:o=4
 ·simp only[if_pos e]
 simp only[if_neg e]
 by_cases e:o=5
 ·simp only[if_pos e]
  rw[dK (by omega),dK (by omega)]
 simp only[if_neg e]
 by_cases e:o=12
 ·have hb:b=true:=by
   rcases w3 with w3|w3
   ·exact w3
   ·omega
  obtain⟨q,rfl,hq⟩:=hp hb
  have h6:=h5 v hlt q hq
  obtain⟨u,hu⟩:∃u:Nat,(at' (at' W.1.2.1.2 (v:Int)) (q:Int)).1=(u:Int):=⟨_,(Int.toNat_of_nonneg h6.1).symm⟩
  simp only[if_pos e]
  rw[hu]at h6 ⊢
  have h7:=h4 u (by omega)
  rw[dK (by omega),dK (by omega),dK (by omega),dK (by omega)]
 simp only[if_neg e]
 unfold mN
 dsimp only
 by_cases e:o=6
 ·simp only[if_pos e];rfl
 simp only[if_neg e]
 by_cases e:o=7
 ·simp only[if_pos e];rfl
 simp only[if_neg e]
 by_cases e:o=8
 ·simp only[if_pos e]
  rw[dK (by omega)];rfl
 simp only[if_neg e]
 by_cases e:o=9
 ·simp only[if_pos e]
  rw[dK (by omega)];rfl
 simp only[if_neg e]
 by_cases e:o=10
 ·simp only[if_pos e]
  rw[bH (r_ f _)];rfl
 simp only[if_neg e]
 by_cases e:o=11
 ·simp only[if_pos e];rfl
 simp only[if_neg e]
 have hb:b=true:=by
  rcases w3 with w3|w3
  ·exact w3
  ·omega
 obtain⟨q,rfl,hq⟩:=hp hb
 have h6:=h5 v hlt q hq
 rw[dK (by omega),dK (by omega)]
 by_cases e:o=13
 ·simp only[if_pos e]
  rw[dK (by omega)];rfl
 simp only[if_neg e]
 by_cases e:o=14
 ·simp only[if_pos e]
  rw[dK (by omega)];rfl
 simp only[if_neg e]
 by_cases e:o=15
 ·simp only[if_pos e]
  rw[bH (r_ f _)];rfl
 simp only[if_neg e]
 by_cases e:o=16
 ·simp only[if_pos e];rfl
 omega
theorem SA {W:XO} {nv n v:Nat} (h:YW W nv n v) {deg:Nat} (hdeg:(at' W.1.2.1.2 (v:Int)).length=deg) (hd24:deg<=24) (hT9:W.2.2.2.length<=800):
  ∀(e:E) (b:Bool) (fuel k:Nat) (p:Int) (pre post:List (Int×Int)),W.2.2.2=pre++(e.ts++post)->pre.length=k->e.wf nv b=true->PL b deg p->e.depth+850<=fuel->
   bN fuel W (k:Int) p=some (e.den (Vh W) deg p,(((k+e.ts.length:Nat)):Int)):=by
 obtain⟨hv,hlt,h1,h2,h3,h4,h5⟩:=id h
 have start:∀{t:Int×Int} {l pre post:List (Int×Int)} {k:Nat},W.2.2.2=pre++((t::l)++post)->pre.length=k->at' W.2.2.2 (k:Int)=t∧(k:Int)<(W.2.2.2.length:Int):=by
  intro t l pre post k hT hk
  refine⟨Ip (rest:=l++post) (by simpa using hT) hk,?_⟩
  rw[hT];simp;omega
 intro e
 induction e with
 |lf o a=>
  intro b fuel k p pre post hT hk hw hp hf
  obtain⟨fuel,rfl⟩:∃f,fuel=f+1:=⟨fuel - 1,by omega⟩
  obtain⟨ht,hlk⟩:=start (l:=[]) hT hk
  show cC (bN fuel) fuel W (k:Int) p=_
  unfold cC
  rw[dK ⟨by omega,hlk⟩,ht]
  dsimp only
  have hw':=hw
  simp only[E.wf,Bool.and_eq_true,Bool.or_eq_true,decide_eq_true_eq]at hw'
  have hl:=Ut h fuel hw (hdeg▸hp)
  rw[if_pos (by omega),bH (show iH fuel _ (o,a) p=some (Vh W o a p)from hl),eW (by omega)]
  rfl
 |un o x ih=>
  intro b fuel k p pre post hT hk hw hp hf
  obtain⟨fuel,rfl⟩:∃f,fuel=f+1:=⟨fuel - 1,by omega⟩
  obtain⟨ht,hlk⟩:=start (l:=x.ts) hT hk
  show cC (bN fuel) fuel W (k:Int) p=_
  unfold cC
  rw[dK ⟨by omega,hlk⟩,ht]
  dsimp only
  simp only[E.wf,Bool.and_eq_true,decide_eq_true_eq]at hw
  simp only[E.depth]at hf
  have hx:=ih b fuel (k+1) p (pre++[(o,0)]) post (by rw[hT];simp[E.ts]) (by simp[hk]) hw.2 hp (by omega)
  rw[if_neg (by omega),if_pos (by omega),eW (by omega),bH (show bN fuel _ _ p=_ from hx),bH (Sf fuel _ _)]
  simp only[E.den,E.ts,List.length_cons]
  rw[show k+1+x.ts.length=k+(x.ts.length+1) by omega]
 |bi o x y ihx ihy=>
  intro b fuel k p pre post hT hk hw hp hf
  obtain⟨fuel,rfl⟩:∃f,fuel=f+1:=⟨fuel - 1,by omega⟩
  obtain⟨ht,hlk⟩:=start (l:=x.ts++y.ts) hT hk
  show cC (bN fuel) fuel W (k:Int) p=_
  unfold cC
  rw[dK ⟨by omega,hlk⟩,ht]
  dsimp only
  simp only[E.wf,Bool.and_eq_true,decide_eq_true_eq]at hw
  simp only[E.depth]at hf
  have hx:=ihx b fuel (k+1) p (pre++[(o,0)]) (y.ts++post) (by rw[hT];simp[E.ts]) (by simp[hk]) hw.1.2 hp (by omega)
  have hy:=ihy b fuel (k+1+x.ts.length) p (pre++(o,0)::x.ts) post (by rw[hT];simp[E.ts]) (by simp[hk];omega) hw.2 hp (by omega)
  rw[if_neg (by omega),if_neg (by omega),if_neg (by omega),if_pos (by omega),eW (by omega),bH (show bN fuel _ _ p=_ from hx),bH (show bN fuel _ _ p=_ from hy),bH (On fuel _ _ _)]
  simp only[E.den,E.ts,List.length_cons,List.length_append]
  rw[show k+1+x.ts.length+y.ts.length=k+(x.ts.length+y.ts.length+1) by omega]
 |ite x y z ihx ihy ihz=>
  intro b fuel k p pre post hT hk hw hp hf
  obtain⟨fuel,rfl⟩:∃f,fuel=f+1:=⟨fuel - 1,by omega⟩
  obtain⟨ht,hlk⟩:=start (l:=x.ts++(y.ts++z.ts)) hT hk
  show cC (bN fuel) fuel W (k:Int) p=_
  unfold cC
  rw[dK ⟨by omega,hlk⟩,ht]
  dsimp only
  simp only[E.wf,Bool.and_eq_true]at hw
  simp only[E.depth]at hf
  have hx:=ihx b fuel (k+1) p (pre++[(43,0)]) (y.ts++z.ts++post) (by rw[hT];simp[E.ts]) (by simp[hk]) hw.1.1 hp (by omega)
  have hy:=ihy b fuel (k+1+x.ts.length) p (pre++(43,0)::x.ts) (z.ts++post) (by rw[hT];simp[E.ts]) (by simp[hk];omega) hw.1.2 hp (by omega)
  have hz:=ihz b fuel (k+1+x.ts.length+y.ts.length) p (pre++(43,0)::(x.ts++y.ts)) post (by rw[hT];simp[E.ts]) (by simp[hk];omega) hw.2 hp (by omega)
  rw[if_neg (by decide),if_neg (by decide),if_neg (by decide),if_neg (by decide),eW (by omega),bH (show bN fuel _ _ p=_ from hx),bH (show bN fuel _ _ p=_ from hy),bH (show bN fuel _ _ p=_ from hz)]
  simp only[E.den,E.ts,List.length_cons,List.length_append]
  rw[show k+1+x.ts.length+y.ts.length+z.ts.length=k+(x.ts.length+(y.ts.length+z.ts.length)+1) by omega]
  split<;>rfl
 | ag o x ih =>
  intro b fuel k p pre post hT hk hw hp hf
  obtain⟨fuel,rfl⟩:∃f,fuel=f+1:=⟨fuel - 1,by omega⟩
  obtain⟨ht,hlk⟩:=start (l:=x.ts) hT hk
  have har:=SN hw
  have hwx:=hw
  simp only[E.wf,Bool.and_eq_true,Bool.or_eq_true,decide_eq_true_eq]at hwx
  simp only[E.depth]at hf
  have hts:(E.ag o x).ts.length=x.ts.length+1:=rfl
  have hlen:=congrArg List.length hT
  simp only[List.length_append]at hlen
  show cC (bN fuel) fuel W (k:Int) p=_
  unfold cC
  rw[dK ⟨by omega,hlk⟩,ht]
  dsimp only
  rw[if_neg (by omega),if_neg (by omega),if_pos (by omega),dK (by omega)]
  let D:Nat->Int:=fun q=>x.den (Vh W) deg ((q:Nat):Int)
  let V:Nat->List Int:=fun q=>(List.range q).map D++List.replicate (24 - q) 0
  have hVl:∀q,q<=24->(V q).length=24:=fun q hq=>by simp[V];omega
  have hset:∀q,q<24->(V q).set q (D q)=V (q+1):=fun q hq=>by
   show((List.range q).map D++List.replicate (24 - q) 0).set q (D q)=(List.range (q+1)).map D++List.replicate (24 - (q+1)) 0
   rw[show 24 - q=(24 - (q+1))+1 by omega,List.replicate_succ,List.set_append_right _ _ (by simp),List.range_succ]
   simp
  let N:Nat->Int:=fun q=>if q=0 then 0 else(((k+1+x.ts.length:Nat)):Int)
  refine Eq.trans (dW (step:=gG fuel W (k:Int) (bN fuel)) (K:=some ((E.ag o x).den (Vh W) deg p,(((k+(E.ag o x).ts.length:Nat)):Int))) deg (fun q=>(N q,(q:Int),V q)) (fun q ag hq=> ?_) (fun ag=> ?_) fuel (by omega)) rfl
  ·unfold gG
   dsimp only
   have hx:=ih true fuel (k+1) ((q:Nat):Int) (pre++[(o,0)]) post (by rw[hT];simp[E.ts]) (by simp[hk]) hwx.2 (fun _=>⟨q,rfl,hq⟩) (by omega)
   rw[if_pos (by rw[hv,hdeg];omega),eW (by omega),bH (show bN fuel _ _ _=_ from hx),dK ⟨by omega,hVl q (by omega)⟩,eW (by omega),Int.toNat_natCast]
   show ag (_,_,(V q).set q (D q))=_
   rw[hset q (by omega)]
   simp only[N]
   rw[if_neg (by omega)]
  ·unfold gG
   dsimp only
   rw[if_neg (by rw[hv,hdeg];omega)]
   have hfold:List.take deg (V deg)=(List.range deg).map D:=by
    show List.take deg ((List.range deg).map D++_)=_
    exact List.take_left' (by simp)
   have fin:∀y:Int,y=(((k+1+x.ts.length:Nat)):Int)->gF fuel W (k:Int) (N deg,V deg) y=some ((E.ag o x).den (Vh W) deg p,(((k+(E.ag o x).ts.length:Nat)):Int)):=by
    rintro y rfl
    unfold gF
    dsimp only
    rw[hv,hdeg,dK ⟨by omega,by omega,by rw[hVl deg hd24];omega⟩,ht,Int.toNat_natCast,hfold,bH (Ue fuel o _ (by omega) (by simp;omega) (by omega))]
    unfold lT
    rw[hts,show k+1+x.ts.length=k+(x.ts.length+1) by omega]
    rfl
   unfold lU
   dsimp only
   by_cases h0:deg=0
   ·rw[if_pos (by rw[hv,hdeg];omega),bH (Wr fuel (E.ag o x) har hT hk hT9 (by omega))]
    exact fin _ (by rw[hts];omega)
   ·rw[if_neg (by rw[hv,hdeg];omega)]
    exact fin _ (by simp only[N];rw[if_neg h0])
end Go.Proofs.YtigggfnchamobaaGreatDoor
end
section
namespace Go.Proofs.YtigggfnchamobaaGreatDoor
open Go.Sx
def eD (fuel:Nat) (p0:(ByteArray×(List (ByteArray×Int×Int×Int×Int×Int))×(List (ByteArray×(Value×List (Int×Int))×(Value×List (Int×(Value×List (Int×Int)))))))×(List (Int)×(List (List (Int×Int))))×Int×List (List (Int))) (p1:List (List (Int))) (p2:Int) (p3:List (Int×Int)):Option (Int):=
 Option.bind (bN fuel ((((((p0.1.1,p0.1.2.1,p0.1.2.2)),((p0.2.1.1,p0.2.1.2)),p0.2.2.1,p0.2.2.2)),p1,p2,p3)) (0:Int) (-1:Int)) fun r6=>(some (r6.1))
theorem MX:aR Tryz.prog 144:=Tryz.call144
theorem uP (fuel:Nat) {p0:(ByteArray×(List (ByteArray×Int×Int×Int×Int×Int))×(List (ByteArray×(Value×List (Int×Int))×(Value×List (Int×(Value×List (Int×Int)))))))×(List (Int)×(List (List (Int×Int))))×Int×List (List (Int))} {p1:List (List (Int))} {p2:Int} {p3:List (Int×Int)} (bx0:Nat)  (v1:Value)  (v2:Value)  (v3:Value)  (v4:Value)  (z5:List (Value×List (Int×Int)))  (v6:Value)  (z7:List (Value×List (Int)))  (v8:Value)  (z9:List (Value×List (Int)))  (v10:Value) (r:Int) (h:eD fuel p0 p1 p2 p3=some r):
  aV Tryz.prog 144 #[vP bx0,v8,vI (p2),v10] [bO bx0 [Value.string (p0.1.1),v1,v2,v3,v4,vI (p0.2.2.1),v6] 178,Sl aP v1 p0.1.2.1,Sl aI v2 p0.1.2.2,Sl bM v3 p0.2.1.1,S2 aZ v4 z5 p0.2.1.2,S2 bM v6 z7 p0.2.2.2,S2 bM v8 z9 p1,Sl aZ v10 p3] (fun x:Unit=>vI (r)) (fun x l=>l) (fun _ l=>l):=by
 refine aV.of Tryz.func144 rfl Tryz.ntmps144 rfl fun c=>?_
 unfold eD at h
 refine sqR<|qkAsg rfl<|dtN<|sqR<|qkMove rfl<|qkMove rfl<|qkMove rfl<|qkMove rfl<|bZ (Know.one (aC.sl (aC.fact 6 rfl))) fun ho1=>bZ (Know.one ((aC.fact 7 rfl))) fun ho2=>?_
 refine aB (VB (r:=Value.agg #[Value.pointer (some ⟨bx0,0,none⟩),v8,Value.int .i64 (p2),v10]) rfl rfl rfl rfl (by intro w;simp[Instr.build,Instr.fill,eN,dU,cY,eO,eP,dV,fS,jD ho1,jD ho2])) rfl ?_
 refine aG (aM.alloc (cs:=[Value.pointer none,Value.slice none 0 0,vI (0:Int),Value.slice none 0 0]) rfl rfl) rfl fun b3=>bZ (Know.one (aC.sl (aC.fact 6 rfl))) fun ho4=>bZ (Know.one ((aC.fact 7 rfl))) fun ho5=>bI 0 (vs:=[vP bx0,v8,vI (p2),v10]) rfl rfl (cR rfl (cR ho4 (cR rfl (cR ho5 rfl)))) rfl rfl rfl<|dtN<|sqR ?_
 have⟨r6,w7,h⟩:=fE h
 refine aG (aM.callQ xU (AW fuel b3 bx0 v1 v2 v3 v4 z5 v6 z7 v8 z9 v10 r6 w7) rfl (aA.cons (aC.res 0 rfl) (aA.cons (aC.fact 0 rfl) (aA.cons (aC.fact 1 rfl) (aA.cons (aC.fact 2 rfl) (aA.cons (aC.fact 3 rfl) (aA.cons (aC.fact 4 rfl) (aA.cons (aC.fact 5 rfl) (aA.cons (aC.fact 6 rfl) (aA.cons (aC.fact 7 rfl) .nil)))))))))) rfl fun x8=>qkMove rfl<|aB (bF rfl rfl) rfl<|aB (bF rfl rfl) rfl<|qkAsg rfl<|qkAsg rfl<|dtN<|sqR<|qkMove rfl<|qkAsg rfl<|dtN<|aS ?_
 cases h
 exact vJ rfl
end Go.Proofs.YtigggfnchamobaaGreatDoor
end
section
namespace Go.Proofs.YtigggfnchamobaaGreatDoor
open Go.Sx
def gK (fuel:Nat) (p0:(ByteArray×(List (ByteArray×Int×Int×Int×Int×Int))×(List (ByteArray×(Value×List (Int×Int))×(Value×List (Int×(Value×List (Int×Int)))))))×(List (Int)×(List (List (Int×Int))))×Int×List (List (Int))) (p1:List (List (Int))) (p2:Int) (p3:Int):Option (Bool):=
 ck (0<=p3∧p3<(List.length p0.1.2.2:Int)) (Option.bind (eD fuel ((((p0.1.1,p0.1.2.1,p0.1.2.2)),((p0.2.1.1,p0.2.1.2)),p0.2.2.1,p0.2.2.2)) p1 p2 ((at' p0.1.2.2 p3).2.1.2)) fun r2=>(some (decide (r2≠(0:Int)))))
theorem Tu:aR Tryz.prog 118:=Tryz.call118
theorem As (fuel:Nat) {p0:(ByteArray×(List (ByteArray×Int×Int×Int×Int×Int))×(List (ByteArray×(Value×List (Int×Int))×(Value×List (Int×(Value×List (Int×Int)))))))×(List (Int)×(List (List (Int×Int))))×Int×List (List (Int))} {p1:List (List (Int))} {p2:Int} {p3:Int} (bx0:Nat)  (v1:Value)  (v2:Value)  (v3:Value)  (v4:Value)  (z5:List (Value×List (Int×Int)))  (v6:Value)  (z7:List (Value×List (Int)))  (v8:Value)  (z9:List (Value×List (Int))) (r:Bool) (h:gK fuel p0 p1 p2 p3=some r):
  aV Tryz.prog 118 #[vP bx0,v8,vI (p2),vI (p3)] [bO bx0 [Value.string (p0.1.1),v1,v2,v3,v4,vI (p0.2.2.1),v6] 178,Sl aP v1 p0.1.2.1,Sl aI v2 p0.1.2.2,Sl bM v3 p0.2.1.1,S2 aZ v4 z5 p0.2.1.2,S2 bM v6 z7 p0.2.2.2,S2 bM v8 z9 p1] (fun x:Unit=>Value.bool (r)) (fun x l=>l) (fun _ l=>l):=by
 refine aV.of Tryz.func118 rfl Tryz.ntmps118 rfl fun c=>?_
 unfold gK at h
 refine sqR<|qkAsg rfl<|dtN<|sqR<|qkMove rfl<|qkMove rfl<|qkMove rfl<|qkMove rfl<|aB (bQ rfl) rfl<|qkFld rfl<|qkFld rfl<|aB (dG rfl (aC.fact 0 rfl) rfl rfl rfl) rfl<|qkMove rfl ?_
 have⟨j1,h⟩:=aH h
 refine aB (a_ rfl rfl (aC.fact 2 rfl) rfl rfl j1) rfl<|aB (nQ rfl rfl rfl rfl rfl) rfl<|aB (pT rfl (aC.fact 2 rfl) rfl rfl rfl wF j1) rfl ?_
 have⟨r2,w3,h⟩:=fE h
 refine aG (aM.callQ MX (uP fuel bx0 v1 v2 v3 v4 z5 v6 z7 v8 z9 ((at' p0.1.2.2 p3).2.1.1) r2 w3) rfl (aA.cons (aC.fact 0 rfl) (aA.cons (aC.fact 1 rfl) (aA.cons (aC.fact 2 rfl) (aA.cons (aC.fact 3 rfl) (aA.cons (aC.fact 4 rfl) (aA.cons (aC.fact 5 rfl) (aA.cons (aC.fact 6 rfl) (aA.cons (tB (aC.fact 2 rfl) wH j1.1 j1.2) .nil))))))))) rfl fun x4=>aB (kR rfl rfl) rfl<|qkAsg rfl<|dtN<|aS ?_
 cases h
 exact lP rfl
end Go.Proofs.YtigggfnchamobaaGreatDoor
end
section
namespace Go.Proofs.YtigggfnchamobaaGreatDoor
open Go.Sx
def lW  (a1:Unit):Option (Int):=
 some (-1:Int)
def gJ (fuel:Nat) (p0:(ByteArray×(List (ByteArray×Int×Int×Int×Int×Int))×(List (ByteArray×(Value×List (Int×Int))×(Value×List (Int×(Value×List (Int×Int)))))))×((ByteArray×(List (ByteArray×Int×Int×Int×Int×Int))×(List (ByteArray×(Value×List (Int×Int))×(Value×List (Int×(Value×List (Int×Int)))))))×(List (Int)×(List (List (Int×Int))))×Int×List (List (Int)))×(List (List (Int×Int)))) (p1:List (List (Int))) (p2:Int) (a5:Int) (ag4:(Int)->Option (Int)):Option (Int):=
 if a5<(List.length p0.1.2.2:Int)then(Option.bind (gK fuel ((((p0.2.1.1.1,p0.2.1.1.2.1,p0.2.1.1.2.2)),((p0.2.1.2.1.1,p0.2.1.2.1.2)),p0.2.1.2.2.1,p0.2.1.2.2.2)) p1 p2 a5) fun r9=>(if r9=true then(some (a5))else(ag4 (wI .i64 (a5+(1:Int))))))else(lW  (()))
def dX (fuel:Nat) (p0:(ByteArray×(List (ByteArray×Int×Int×Int×Int×Int))×(List (ByteArray×(Value×List (Int×Int))×(Value×List (Int×(Value×List (Int×Int)))))))×((ByteArray×(List (ByteArray×Int×Int×Int×Int×Int))×(List (ByteArray×(Value×List (Int×Int))×(Value×List (Int×(Value×List (Int×Int)))))))×(List (Int)×(List (List (Int×Int))))×Int×List (List (Int)))×(List (List (Int×Int)))) (p1:List (List (Int))) (p2:Int):Option (Int):=
 bG (gJ fuel p0 p1 p2) fuel (0:Int)
theorem Qo:aR Tryz.prog 88:=Tryz.call88
theorem vS (fuel:Nat) {p0:(ByteArray×(List (ByteArray×Int×Int×Int×Int×Int))×(List (ByteArray×(Value×List (Int×Int))×(Value×List (Int×(Value×List (Int×Int)))))))×((ByteArray×(List (ByteArray×Int×Int×Int×Int×Int))×(List (ByteArray×(Value×List (Int×Int))×(Value×List (Int×(Value×List (Int×Int)))))))×(List (Int)×(List (List (Int×Int))))×Int×List (List (Int)))×(List (List (Int×Int)))} {p1:List (List (Int))} {p2:Int} (bx0:Nat)  (v1:Value)  (v2:Value)  (bx3:Nat)  (v4:Value)  (v5:Value)  (v6:Value)  (v7:Value)  (z8:List (Value×List (Int×Int)))  (v9:Value)  (z10:List (Value×List (Int)))  (v11:Value)  (z12:List (Value×List (Int×Int)))  (v13:Value)  (z14:List (Value×List (Int))) (r:Int) (h:dX fuel p0 p1 p2=some r):
  aV Tryz.prog 88 #[vP bx0,v13,vI (p2)] [bO bx0 [Value.string (p0.1.1),v1,v2,vP bx3,v11] 140,Sl aP v1 p0.1.2.1,Sl aI v2 p0.1.2.2,bO bx3 [Value.string (p0.2.1.1.1),v4,v5,v6,v7,vI (p0.2.1.2.2.1),v9] 178,Sl aP v4 p0.2.1.1.2.1,Sl aI v5 p0.2.1.1.2.2,Sl bM v6 p0.2.1.2.1.1,S2 aZ v7 z8 p0.2.1.2.1.2,S2 bM v9 z10 p0.2.1.2.2.2,S2 aZ v11 z12 p0.2.2,S2 bM v13 z14 p1] (fun x:Unit=>vI (r)) (fun x l=>l) (fun _ l=>l):=by
 refine aV.of Tryz.func88 rfl Tryz.ntmps88 rfl fun c=>?_
 unfold dX at h
 refine sqR<|qkAsg rfl<|dtN<|aL<|midU (fun a1=>lW  a1=some r) (fun a1 b2=>[]) (fun a1 b2=>[]) ?_ ?_
 ·refine sqR<|qkMove rfl<|aB (bQ rfl) rfl<|qkFld rfl<|qkFld rfl<|aB (dG rfl (aC.fact 0 rfl) rfl rfl rfl) rfl<|aB (b_ rfl (aC.fact 2 rfl) rfl) rfl<|qkMove rfl<|dtN<|aQ<|loopL (gJ fuel p0 p1 p2) (fun a5 b6=>[(0,vP bx0),(1,v13),(2,vI (p2)),(13,vI (List.length p0.1.2.2:Int)),(14,vI (a5))]) (fun a5 b6=>[]) (0:Int) () h SF (aK.refl _) ?_
  clear h
  intro k7 a5 b6 h
  unfold gJ at h
  refine sqR<|qkLss rfl<|dtN<|aL ?_
  refine eL h rfl (fun h=>?_) fun h=>?_
  ·refine iV<|aL<|aQ<|sqR<|qkMove rfl<|qkAsg rfl<|dtN<|sqR<|qkMove rfl<|aB (bQ rfl) rfl<|qkFld rfl<|aB (dG rfl (aC.fact 0 rfl) rfl rfl rfl) rfl<|qkMove rfl<|qkMove rfl<|qkMove rfl ?_
   have⟨r9,w10,h⟩:=fE h
   refine aG (aM.callQ Tu (As fuel bx3 v4 v5 v6 v7 z8 v9 z10 v13 z14 r9 w10) rfl (aA.cons (aC.fact 3 rfl) (aA.cons (aC.fact 4 rfl) (aA.cons (aC.fact 5 rfl) (aA.cons (aC.fact 6 rfl) (aA.cons (aC.fact 7 rfl) (aA.cons (aC.fact 8 rfl) (aA.cons (aC.fact 10 rfl) .nil)))))))) rfl fun x11=>dtN ?_
   refine zJ h rfl (fun _ h=>?_) fun _ h=>?_
   ·refine sqR<|qkMove rfl<|qkAsg rfl<|dtN<|aS<|bK<|aJ<|aJ<|bK<|aJ ?_
    cases h
    exact lP rfl
   refine cU<|inT<|aO<|qkAdd rfl<|qkMove rfl<|dtN ?_
   exact xK (wI .i64 (a5+(1:Int))) () h SF rfl
  refine xO ?_
  exact iJ () (()) h SF rfl
 clear h
 intro a1 b2 h
 unfold lW at h
 refine sqR<|qkAsg rfl<|dtN<|aS ?_
 cases h
 exact lP rfl
end Go.Proofs.YtigggfnchamobaaGreatDoor
end
section
namespace Go.Proofs.YtigggfnchamobaaGreatDoor
open Go.Sx
def pA (p0:Int) (p1:Int×Int) (p2:Int) (a3:Bool):Option (Int):=
 if a3=true then(some (p2))else(if p0=(3:Int)then(some (-1:Int))else(if p2<p1.1 then(some (p1.1))else(some (p1.2))))
def qK (fuel:Nat) (p0:Int) (p1:Int×Int) (p2:Int):Option (Int):=
 if p1.1<=p2 then(pA p0 p1 p2 (decide (p2<=p1.2)))else(pA p0 p1 p2 (false))
theorem TI:aR Tryz.prog 160:=Tryz.call160
theorem Gz (fuel:Nat) {p0:Int} {p1:Int×Int} {p2:Int} (r:Int) (h:qK fuel p0 p1 p2=some r):
  aV Tryz.prog 160 #[vI (p0),Value.agg #[vI (p1.1),vI (p1.2)],vI (p2)] [] (fun x:Unit=>vI (r)) (fun x l=>l) (fun _ l=>l):=by
 refine aV.of Tryz.func160 rfl Tryz.ntmps160 rfl fun c=>?_
 unfold qK at h
 refine sqR<|aG (aM.box (cs:=[vI (p1.1),vI (p1.2)]) rfl rfl) rfl fun b1=>qkAsg rfl<|dtN<|aL<|aQ<|aL<|midU (fun a3=>pA p0 p1 p2 a3=some r) (fun a3 b4=>[(0,vI (p0)),(2,vI (p2)),(4,vP b1),(7,Value.bool (a3))]) (fun a3 b4=>[bO b1 [vI (p1.1),vI (p1.2)] 145]) ?_ ?_
 ·refine aO<|qkMove rfl ?_
  refine aB (mS (i:=0) rfl rfl rfl rfl rfl (by decide)) rfl ?_
  refine qkLd 0 rfl<|aB (Ef rfl rfl) rfl<|qkMove rfl ?_
  refine Cy h rfl (fun _ h=>?_) fun _ h=>?_
  ·refine gyMove rfl ?_
   refine aT rfl (mS (i:=1) rfl rfl rfl rfl rfl (by decide)) rfl ?_
   refine aT rfl (dO 0 rfl rfl rfl rfl rfl) rfl<|aT rfl (Ai rfl rfl) rfl<|aB (bW rfl rfl) rfl<|qkAsg rfl<|dtN ?_
   exact iJ (decide (p2<=p1.2)) () h SF rfl
  refine gdSkip rfl<|gdSkip rfl<|gdSkip rfl<|gdSkip rfl<|aB (cA rfl rfl) rfl<|qkAsg rfl<|dtN ?_
  exact iJ (false) () h SF rfl
 clear h
 intro a3 b4 h
 unfold pA at h
 refine zJ h rfl (fun _ h=>?_) fun _ h=>?_
 ·refine sqR<|qkMove rfl<|qkAsg rfl<|dtN<|aS<|bK<|aJ ?_
  cases h
  exact vJ rfl
 refine sqR<|qkMove rfl<|qkEql rfl<|qkAsg rfl<|dtN ?_
 refine eL h rfl (fun h=>?_) fun h=>?_
 ·refine sqR<|qkAsg rfl<|dtN<|aS<|bK<|aJ ?_
  cases h
  exact vJ rfl
 refine sqR<|qkMove rfl ?_
 refine aB (mS (i:=0) rfl rfl rfl rfl rfl (by decide)) rfl ?_
 refine qkLd 0 rfl<|qkLss rfl<|qkAsg rfl<|dtN ?_
 refine eL h rfl (fun h=>?_) fun h=>?_
 ·refine sqR ?_
  refine aB (mS (i:=0) rfl rfl rfl rfl rfl (by decide)) rfl ?_
  refine qkLd 0 rfl<|qkAsg rfl<|dtN<|aS<|bK<|aJ ?_
  cases h
  exact vJ rfl
 refine cU<|inT<|sqR ?_
 refine aB (mS (i:=1) rfl rfl rfl rfl rfl (by decide)) rfl ?_
 refine qkLd 0 rfl<|qkAsg rfl<|dtN<|aS ?_
 cases h
 exact vJ rfl
end Go.Proofs.YtigggfnchamobaaGreatDoor
end
section
namespace Go.Proofs.YtigggfnchamobaaGreatDoor
open Go.Sx
def lV  (a5:List (Int)):Option (List (Int)):=
 some (a5)
def gH (fuel:Nat) (p0:(ByteArray×(List (ByteArray×Int×Int×Int×Int×Int))×(List (ByteArray×(Value×List (Int×Int))×(Value×List (Int×(Value×List (Int×Int)))))))×((ByteArray×(List (ByteArray×Int×Int×Int×Int×Int))×(List (ByteArray×(Value×List (Int×Int))×(Value×List (Int×(Value×List (Int×Int)))))))×(List (Int)×(List (List (Int×Int))))×Int×List (List (Int)))×(List (List (Int×Int)))) (p1:List (List (Int))) (p2:Int) (p3:Int) (a11:Int×List (Int)) (ag10:(Int×List (Int))->Option (List (Int))):Option (List (Int)):=
 if a11.1<(List.length ((at' p0.1.2.2 p3).2.2.2):Int)then(ck (0<=a11.1∧a11.1<(List.length ((at' p0.1.2.2 p3).2.2.2):Int)) (Option.bind (eD fuel ((((p0.2.1.1.1,p0.2.1.1.2.1,p0.2.1.1.2.2)),((p0.2.1.2.1.1,p0.2.1.2.1.2)),p0.2.1.2.2.1,p0.2.1.2.2.2)) p1 p2 ((at' ((at' p0.1.2.2 p3).2.2.2) a11.1).2.2)) fun r18=>(ck (0<=((at' ((at' p0.1.2.2 p3).2.2.2) a11.1).1)∧((at' ((at' p0.1.2.2 p3).2.2.2) a11.1).1)<(List.length p0.1.2.1:Int)) (ck (0<=p2∧p2<(List.length p0.2.2:Int)) (ck (0<=((at' ((at' p0.1.2.2 p3).2.2.2) a11.1).1)∧((at' ((at' p0.1.2.2 p3).2.2.2) a11.1).1)<(List.length (at' p0.2.2 p2):Int)) (Option.bind (qK fuel ((at' p0.1.2.1 ((at' ((at' p0.1.2.2 p3).2.2.2) a11.1).1)).2.1) ((((at' (at' p0.2.2 p2) ((at' ((at' p0.1.2.2 p3).2.2.2) a11.1).1)).1),((at' (at' p0.2.2 p2) ((at' ((at' p0.1.2.2 p3).2.2.2) a11.1).1)).2))) r18) fun r24=>(ck (0<=((at' ((at' p0.1.2.2 p3).2.2.2) a11.1).1)∧((at' ((at' p0.1.2.2 p3).2.2.2) a11.1).1)<(List.length a11.2:Int)) (ag10 ((wI .i64 (a11.1+(1:Int))),(List.set a11.2 (Int.toNat ((at' ((at' p0.1.2.2 p3).2.2.2) a11.1).1)) r24))))))))))else(lV  (a11.2))
def gY (fuel:Nat) (p0:(ByteArray×(List (ByteArray×Int×Int×Int×Int×Int))×(List (ByteArray×(Value×List (Int×Int))×(Value×List (Int×(Value×List (Int×Int)))))))×((ByteArray×(List (ByteArray×Int×Int×Int×Int×Int))×(List (ByteArray×(Value×List (Int×Int))×(Value×List (Int×(Value×List (Int×Int)))))))×(List (Int)×(List (List (Int×Int))))×Int×List (List (Int)))×(List (List (Int×Int)))) (p1:List (List (Int))) (p2:Int) (p3:Int):Option (List (Int)):=
 ck (0<=p2∧p2<(List.length p1:Int)) (ck ((List.length ([]:List Int):Int)+(List.length (at' p1 p2):Int)<=1099511627) (ck (0<=p3∧p3<(List.length p0.1.2.2:Int)) (bG (gH fuel p0 p1 p2 p3) fuel ((0:Int),(([]:List Int)++(at' p1 p2))))))
theorem Tz:aR Tryz.prog 134:=Tryz.call134
theorem AX (fuel:Nat) {p0:(ByteArray×(List (ByteArray×Int×Int×Int×Int×Int))×(List (ByteArray×(Value×List (Int×Int))×(Value×List (Int×(Value×List (Int×Int)))))))×((ByteArray×(List (ByteArray×Int×Int×Int×Int×Int))×(List (ByteArray×(Value×List (Int×Int))×(Value×List (Int×(Value×List (Int×Int)))))))×(List (Int)×(List (List (Int×Int))))×Int×List (List (Int)))×(List (List (Int×Int)))} {p1:List (List (Int))} {p2:Int} {p3:Int} (bx0:Nat)  (v1:Value)  (v2:Value)  (bx3:Nat)  (v4:Value)  (v5:Value)  (v6:Value)  (v7:Value)  (z8:List (Value×List (Int×Int)))  (v9:Value)  (z10:List (Value×List (Int)))  (v11:Value)  (z12:List (Value×List (Int×Int)))  (v13:Value)  (z14:List (Value×List (Int))) (r:List (Int)) (h:gY fuel p0 p1 p2 p3=some r):
  aV Tryz.prog 134 #[vP bx0,v13,vI (p2),vI (p3)] [bO bx0 [Value.string (p0.1.1),v1,v2,vP bx3,v11] 140,Sl aP v1 p0.1.2.1,Sl aI v2 p0.1.2.2,bO bx3 [Value.string (p0.2.1.1.1),v4,v5,v6,v7,vI (p0.2.1.2.2.1),v9] 178,Sl aP v4 p0.2.1.1.2.1,Sl aI v5 p0.2.1.1.2.2,Sl bM v6 p0.2.1.2.1.1,S2 aZ v7 z8 p0.2.1.2.1.2,S2 bM v9 z10 p0.2.1.2.2.2,S2 aZ v11 z12 p0.2.2,S2 bM v13 z14 p1] (fun x:Value=>x) (fun x l=>Ar bY x r::l) (fun _ l=>l):=by
 refine aV.of Tryz.func134 rfl Tryz.ntmps134 rfl fun c=>?_
 unfold gY at h
 refine sqR<|qkAsg rfl<|dtN<|sqR<|qkMove rfl<|qkMove rfl ?_
 have⟨j1,h⟩:=aH h
 refine aB (cO rfl rfl (aC.fact 10 rfl) rfl rfl j1) rfl<|aB (cM rfl (aC.fact 10 rfl) rfl rfl j1) rfl<|jJ (iW bY) ?_
 have⟨j3,h⟩:=aH h
 refine aG (gM 0 cI rfl rfl rfl (aC.el (aC.fact 10 rfl) j1.1 j1.2) rfl rfl rfl rfl j3 rfl) rfl fun u2=>qkAsg rfl<|dtN<|aL<|midU (fun a5=>lV  a5=some r) (fun a5 b6=>[(9,u2)]) (fun a5 b6=>[Ar bY u2 a5]) ?_ ?_
 ·refine sqR<|qkMove rfl<|aB (bQ rfl) rfl<|qkFld rfl<|qkFld rfl<|aB (dG rfl (aC.fact 0 rfl) rfl rfl rfl) rfl<|qkMove rfl ?_
  have⟨j7,h⟩:=aH h
  refine aB (a_ rfl rfl (aC.fact 2 rfl) rfl rfl j7) rfl<|aB (nQ rfl rfl rfl rfl rfl) rfl<|aB (pT rfl (aC.fact 2 rfl) rfl rfl rfl wG j7) rfl<|aB (b_ rfl (tB (aC.fact 2 rfl) fC j7.1 j7.2) rfl) rfl<|qkMove rfl<|dtN<|aQ<|loopL (gH fuel p0 p1 p2 p3) (fun a11 b12=>[(0,vP bx0),(1,v13),(2,vI (p2)),(9,u2),(26,(at' p0.1.2.2 p3).2.2.1),(27,vI (List.length ((at' p0.1.2.2 p3).2.2.2):Int)),(28,vI (a11.1))]) (fun a11 b12=>[Ar bY u2 a11.2]) ((0:Int),(([]:List Int)++(at' p1 p2))) () h SF (aK.refl _) ?_
  clear h
  intro k13 a11 b12 h
  unfold gH at h
  refine sqR<|qkLss rfl<|dtN<|aL ?_
  refine eL h rfl (fun h=>?_) fun h=>?_
  ·refine iV<|aL<|aQ<|sqR ?_
   have⟨j15,h⟩:=aH h
   refine aB (a_ rfl rfl (tB (aC.fact 2 rfl) fC j7.1 j7.2) rfl rfl j15) rfl<|aB (Lz (cs:=[vI ((at' ((at' p0.1.2.2 p3).2.2.2) a11.1).1),(at' ((at' p0.1.2.2 p3).2.2.2) a11.1).2.1]) rfl (tB (aC.fact 2 rfl) fC j7.1 j7.2) GQ rfl rfl rfl rfl j15) rfl<|aG (aM.alloc (cs:=[vI (0:Int),Value.slice none 0 0]) rfl rfl) rfl fun b16=>bZ (Know.one ((tB (tB (aC.fact 2 rfl) fC j7.1 j7.2) Ah j15.1 j15.2))) fun ho17=>bI 0 (vs:=[vI ((at' ((at' p0.1.2.2 p3).2.2.2) a11.1).1),(at' ((at' p0.1.2.2 p3).2.2.2) a11.1).2.1]) rfl rfl (cR rfl (cR ho17 rfl)) rfl rfl rfl<|dtN<|aL ?_
   refine JR.start [0,1,3,7,0,0,0,64,255,511] 8 mixedOrders (by decide +kernel) ?_
   refine JR.open (by exact rfl) ?_
   refine jkMove rfl<|aN rfl .nil .nil (bQ rfl) aD.z<|jkFld rfl<|aN rfl .nil (cV.cons (List.mem_of_getElem? (i:=0) rfl) .nil) (dG rfl (aC.fact 0 rfl) rfl rfl rfl) aD.z<|jkMove rfl<|jkMove rfl<|jkFld rfl<|jkLd 0 rfl<|bL 8 rfl rfl ?_
   have⟨r18,w19,h⟩:=fE h
   refine aG (aM.callQ MX (uP fuel bx3 v4 v5 v6 v7 z8 v9 z10 v13 z14 ((at' ((at' p0.1.2.2 p3).2.2.2) a11.1).2.1) r18 w19) rfl (aA.cons (aC.fact 3 rfl) (aA.cons (aC.fact 4 rfl) (aA.cons (aC.fact 5 rfl) (aA.cons (aC.fact 6 rfl) (aA.cons (aC.fact 7 rfl) (aA.cons (aC.fact 8 rfl) (aA.cons (aC.fact 10 rfl) (aA.cons (tB (tB (aC.fact 2 rfl) fC j7.1 j7.2) Ah j15.1 j15.2) .nil))))))))) rfl fun x20=>qkAsg rfl<|dtN ?_
   refine JR.start [0,0,2,0,8,24,56,120,0,256,1016,2040,4088,0,8192,24576,57344,0,253952,516096,0,1048576,4186112,8380416,0,33554424,67108863,134217727] 26 mixedOrders (by decide +kernel) ?_
   refine JR.open (by exact rfl) ?_
   refine jkMove rfl<|jkFld rfl<|jkLd 0 rfl<|jkMove rfl<|aN rfl .nil .nil (bQ rfl) aD.z<|jkFld rfl<|jkFld rfl<|aN rfl .nil (cV.cons (List.mem_of_getElem? (i:=0) rfl) .nil) (dG rfl (aC.fact 0 rfl) rfl rfl rfl) aD.z<|jkFld rfl<|jkLd 0 rfl ?_
   have⟨j21,h⟩:=aH h
   refine aN rfl .nil (cV.cons (List.mem_of_getElem? (i:=1) rfl) .nil) (a_ rfl rfl (aC.fact 0 rfl) rfl rfl j21) aD.z<|aN rfl .nil .nil (nQ rfl rfl rfl rfl rfl) aD.z<|aN rfl .nil (cV.cons (List.mem_of_getElem? (i:=1) rfl) .nil) (pT rfl (aC.fact 0 rfl) rfl rfl rfl uM j21) aD.z<|jkMove rfl<|aN rfl .nil .nil (bQ rfl) aD.z<|jkFld rfl<|aN rfl .nil (cV.cons (List.mem_of_getElem? (i:=0) rfl) .nil) (dG rfl (aC.fact 0 rfl) rfl rfl rfl) aD.z<|jkMove rfl ?_
   have⟨j22,h⟩:=aH h
   refine aN rfl .nil (cV.cons (List.mem_of_getElem? (i:=9) rfl) .nil) (cO rfl rfl (aC.fact 0 rfl) rfl rfl j22) aD.z<|aN rfl .nil (cV.cons (List.mem_of_getElem? (i:=9) rfl) .nil) (cM rfl (aC.fact 0 rfl) rfl rfl j22) aD.z<|jkFld rfl<|jkLd 0 rfl ?_
   have⟨j23,h⟩:=aH h
   refine aN rfl .nil (cV.cons (List.mem_of_getElem? (i:=9) rfl) .nil) (a_ rfl rfl (aC.el (aC.fact 0 rfl) j22.1 j22.2) rfl rfl j23) aD.z<|aN rfl .nil (cV.cons (List.mem_of_getElem? (i:=9) rfl) .nil) (fZ (cs:=[vI ((at' (at' p0.2.2 p2) ((at' ((at' p0.1.2.2 p3).2.2.2) a11.1).1)).1),vI ((at' (at' p0.2.2 p2) ((at' ((at' p0.1.2.2 p3).2.2.2) a11.1).1)).2)]) rfl (aC.el (aC.fact 0 rfl) j22.1 j22.2) bJ rfl rfl rfl rfl j23) aD.z<|jkMove rfl ?_
   have⟨r24,w25,h⟩:=fE h
   refine JR.loud rfl rfl rfl (aM.callQ TI (Gz fuel  r24 w25) rfl .nil) rfl (fun x26=>(aF.b rfl (aF.b rfl (aF.b rfl (aF.b rfl (aF.b rfl (aF.b rfl (aF.b rfl (aF.b rfl (aF.b rfl (aF.b rfl (aF.b rfl (aF.b rfl (aF.b rfl (aF.b rfl (aF.b rfl (aF.b rfl (aF.b rfl (aF.b rfl (aF.b rfl (aF.b rfl (aF.b rfl (aF.b rfl (aF.h (aK.ix [0] rfl rfl) .nil (aF.h .nil .nil (aF.h .nil .nil aF.z)))))))))))))))))))))))))) fun x26=>bL 26 rfl rfl ?_
   have⟨j27,h⟩:=aH h
   refine aB (a_ rfl rfl (aU (aC.res 1 rfl) cI) rfl rfl j27) rfl<|tQ 1 r24 j27 rfl rfl rfl rfl rfl rfl rfl<|dY<|inT<|aO<|qkAdd rfl<|qkMove rfl<|dtN ?_
   exact nN ((wI .i64 (a11.1+(1:Int))),(List.set a11.2 (Int.toNat ((at' ((at' p0.1.2.2 p3).2.2.2) a11.1).1)) r24)) () h SF (aK.ix [1] rfl rfl) (aA.refl _ _)
  refine xO ?_
  exact iJ (a11.2) () h SF rfl
 clear h
 intro a5 b6 h
 unfold lV at h
 refine sqR<|qkMove rfl<|qkAsg rfl<|dtN<|aS ?_
 cases h
 exact fQ (u2) rfl rfl (RV.tmp rfl) (aK.refl _) aA.nil
end Go.Proofs.YtigggfnchamobaaGreatDoor
end
section
namespace Go.Proofs.YtigggfnchamobaaGreatDoor
open Go.Sx
def lX  (a6:List (List (Int))):Option (List (List (Int))):=
 some (a6)
def iR (a12:Int×List (List (Int))) (ag11:(Int×List (List (Int)))->Option (List (List (Int)))) (a18:List (List (Int))):Option (List (List (Int))):=
 ag11 ((wI .i64 (a12.1+(1:Int))),a18)
def eY (fuel:Nat) (p0:(ByteArray×(List (ByteArray×Int×Int×Int×Int×Int))×(List (ByteArray×(Value×List (Int×Int))×(Value×List (Int×(Value×List (Int×Int)))))))×((ByteArray×(List (ByteArray×Int×Int×Int×Int×Int))×(List (ByteArray×(Value×List (Int×Int))×(Value×List (Int×(Value×List (Int×Int)))))))×(List (Int)×(List (List (Int×Int))))×Int×List (List (Int)))×(List (List (Int×Int)))) (p1:List (List (Int))) (p2:Int) (a12:Int×List (List (Int))) (ag11:(Int×List (List (Int)))->Option (List (List (Int)))):Option (List (List (Int))):=
 if a12.1<(List.length p1:Int)then(ck (0<=a12.1) (if(c_ .u32 (oZ .u32 p2 a12.1) (1:Int))=(1:Int)then(Option.bind (dX fuel ((((p0.1.1,p0.1.2.1,p0.1.2.2)),((((p0.2.1.1.1,p0.2.1.1.2.1,p0.2.1.1.2.2)),((p0.2.1.2.1.1,p0.2.1.2.1.2)),p0.2.1.2.2.1,p0.2.1.2.2.2)),p0.2.2)) p1 a12.1) fun r22=>(Option.bind (gY fuel ((((p0.1.1,p0.1.2.1,p0.1.2.2)),((((p0.2.1.1.1,p0.2.1.1.2.1,p0.2.1.1.2.2)),((p0.2.1.2.1.1,p0.2.1.2.1.2)),p0.2.1.2.2.1,p0.2.1.2.2.2)),p0.2.2)) p1 a12.1 r22) fun r25=>(ck (0<=a12.1∧a12.1<(List.length a12.2:Int)) (iR a12 ag11 (List.set a12.2 (Int.toNat a12.1) r25)))))else(iR a12 ag11 (a12.2))))else(lX  (a12.2))
def fN (fuel:Nat) (p0:(ByteArray×(List (ByteArray×Int×Int×Int×Int×Int))×(List (ByteArray×(Value×List (Int×Int))×(Value×List (Int×(Value×List (Int×Int)))))))×((ByteArray×(List (ByteArray×Int×Int×Int×Int×Int))×(List (ByteArray×(Value×List (Int×Int))×(Value×List (Int×(Value×List (Int×Int)))))))×(List (Int)×(List (List (Int×Int))))×Int×List (List (Int)))×(List (List (Int×Int)))) (p1:List (List (Int))) (p2:Int):Option (List (List (Int))):=
 Option.bind (pQ fuel p1) fun r1=>(bG (eY fuel p0 p1 p2) fuel ((0:Int),r1))
theorem Tq:aR Tryz.prog 113:=Tryz.call113
theorem AY (fuel:Nat) {p0:(ByteArray×(List (ByteArray×Int×Int×Int×Int×Int))×(List (ByteArray×(Value×List (Int×Int))×(Value×List (Int×(Value×List (Int×Int)))))))×((ByteArray×(List (ByteArray×Int×Int×Int×Int×Int))×(List (ByteArray×(Value×List (Int×Int))×(Value×List (Int×(Value×List (Int×Int)))))))×(List (Int)×(List (List (Int×Int))))×Int×List (List (Int)))×(List (List (Int×Int)))} {p1:List (List (Int))} {p2:Int} (bx0:Nat)  (v1:Value)  (v2:Value)  (bx3:Nat)  (v4:Value)  (v5:Value)  (v6:Value)  (v7:Value)  (z8:List (Value×List (Int×Int)))  (v9:Value)  (z10:List (Value×List (Int)))  (v11:Value)  (z12:List (Value×List (Int×Int)))  (v13:Value)  (z14:List (Value×List (Int))) (r:List (List (Int))) (h:fN fuel p0 p1 p2=some r):
  aV Tryz.prog 113 #[vP bx0,v13,vU (p2)] [bO bx0 [Value.string (p0.1.1),v1,v2,vP bx3,v11] 140,Sl aP v1 p0.1.2.1,Sl aI v2 p0.1.2.2,bO bx3 [Value.string (p0.2.1.1.1),v4,v5,v6,v7,vI (p0.2.1.2.2.1),v9] 178,Sl aP v4 p0.2.1.1.2.1,Sl aI v5 p0.2.1.1.2.2,Sl bM v6 p0.2.1.2.1.1,S2 aZ v7 z8 p0.2.1.2.1.2,S2 bM v9 z10 p0.2.1.2.2.2,S2 aZ v11 z12 p0.2.2,S2 bM v13 z14 p1] (fun x:Value×List Value=>x.1) (fun x l=>Ar dJ.raw x.1 x.2::jG bY x.2 r::l) (fun _ l=>l):=by
 refine aV.of Tryz.func113 rfl Tryz.ntmps113 rfl fun c=>?_
 unfold fN at h
 refine sqR<|qkAsg rfl<|dtN<|sqR<|qkMove rfl ?_
 have⟨r1,w2,h⟩:=fE h
 refine aG (aM.callQ MR (BW fuel v13 z14 r1 w2) rfl (aA.cons (aC.fact 10 rfl) .nil)) rfl fun x3=>qkAsg rfl<|dtN<|aL<|midL (B:=List Value) (fun a6=>lX  a6=some r) (fun a6 b7=>[(7,x3.1)]) (fun a6 b7=>[Ar dJ.raw x3.1 b7,jG bY b7 a6]) ?_ ?_
 ·refine sqR<|qkMove rfl<|aB (iX rfl (aC.fact 10 rfl) rfl) rfl<|qkMove rfl<|dtN<|aQ<|loopL (B:=List Value) (eY fuel p0 p1 p2) (fun a12 b13=>[(0,vP bx0),(1,v13),(2,vU (p2)),(7,x3.1),(12,vI (List.length p1:Int)),(13,vI (a12.1))]) (fun a12 b13=>[Ar dJ.raw x3.1 b13,jG bY b13 a12.2]) ((0:Int),r1) (x3.2) h SF (aK.refl _) ?_
  clear h
  intro k14 a12 b13 h
  unfold eY at h
  refine sqR<|qkLss rfl<|dtN<|aL ?_
  refine eL h rfl (fun h=>?_) fun h=>?_
  ·refine iV<|aL<|midL (B:=List Value) (fun a18=>iR a12 (bG (eY fuel p0 p1 p2) k14) a18=some r) (fun a18 b19=>[(0,vP bx0),(1,v13),(2,vU (p2)),(7,x3.1),(12,vI (List.length p1:Int)),(13,vI (a12.1))]) (fun a18 b19=>[Ar dJ.raw x3.1 b19,jG bY b19 a18]) ?_ ?_
   ·refine aQ<|sqR<|qkMove rfl<|qkAsg rfl<|dtN<|sqR<|qkMove rfl<|qkMove rfl ?_
    have⟨j20,h⟩:=aH h
    refine aB (AG rfl rfl j20) rfl<|aB (oY rfl rfl) rfl<|qkEql rfl<|dtN ?_
    refine eL h rfl (fun h=>?_) fun h=>?_
    ·refine aO<|qkMove rfl<|qkMove rfl<|qkMove rfl<|qkMove rfl<|qkMove rfl<|qkMove rfl<|qkMove rfl<|qkMove rfl ?_
     have⟨r22,w23,h⟩:=fE h
     refine aG (aM.callQ Qo (vS fuel bx0 v1 v2 bx3 v4 v5 v6 v7 z8 v9 z10 v11 z12 v13 z14 r22 w23) rfl (aA.cons (aC.fact 0 rfl) (aA.cons (aC.fact 1 rfl) (aA.cons (aC.fact 2 rfl) (aA.cons (aC.fact 3 rfl) (aA.cons (aC.fact 4 rfl) (aA.cons (aC.fact 5 rfl) (aA.cons (aC.fact 6 rfl) (aA.cons (aC.fact 7 rfl) (aA.cons (aC.fact 8 rfl) (aA.cons (aC.fact 9 rfl) (aA.cons (aC.fact 10 rfl) .nil)))))))))))) rfl fun x24=>?_
     have⟨r25,w26,h⟩:=fE h
     refine aG (aM.callQ Tz (AX fuel bx0 v1 v2 bx3 v4 v5 v6 v7 z8 v9 z10 v11 z12 v13 z14 r25 w26) rfl (aA.cons (aC.fact 0 rfl) (aA.cons (aC.fact 1 rfl) (aA.cons (aC.fact 2 rfl) (aA.cons (aC.fact 3 rfl) (aA.cons (aC.fact 4 rfl) (aA.cons (aC.fact 5 rfl) (aA.cons (aC.fact 6 rfl) (aA.cons (aC.fact 7 rfl) (aA.cons (aC.fact 8 rfl) (aA.cons (aC.fact 9 rfl) (aA.cons (aC.fact 10 rfl) .nil)))))))))))) rfl fun x27=>?_
     have⟨j28,h⟩:=aH h
     refine aB (cO rfl rfl (bD (i:=1) (j:=2) rfl rfl cI) rfl rfl j28) rfl<|bZ (Know.one ((aU (aC.res 0 rfl) cI))) fun ho29=>jJ (uT (k:=a12.1) 2 0 rfl rfl rfl j28) ?_
     refine oG 0 1 ⟨j28.1,by first|exact j28.2|simpa using j28.2⟩ rfl rfl rfl rfl rfl (by simp) ho29 rfl ?_
     refine dY<|inT ?_
     exact iJ (List.set a12.2 (Int.toNat a12.1) r25) (List.set b13 (Int.toNat a12.1) x27) h SF rfl
    refine cU<|inT ?_
    exact iJ (a12.2) (b13) h SF rfl
   clear h
   intro a18 b19 h
   unfold iR at h
   refine aO<|qkAdd rfl<|qkMove rfl<|dtN ?_
   exact xK ((wI .i64 (a12.1+(1:Int))),a18) (b19) h SF rfl
  refine xO ?_
  exact iJ (a12.2) (b13) h SF rfl
 clear h
 intro a6 b7 h
 unfold lX at h
 refine sqR<|qkMove rfl<|qkAsg rfl<|dtN<|aS ?_
 cases h
 exact fQ (x3.1,b7) rfl rfl (RV.tmp rfl) (aK.refl _) aA.nil
end Go.Proofs.YtigggfnchamobaaGreatDoor
end
section
namespace Go.Proofs.YtigggfnchamobaaGreatDoor
open Go.Sx
def vL  (a2:Int):Option (Int):=
 some (a2)
def rX (a7:Int×Int) (ag6:(Int×Int)->Option (Int)) (a12:Int):Option (Int):=
 ag6 (a12,(wI .i64 (a7.2+(1:Int))))
def mW (p0:Int) (g1:Int->Option Bool) (a7:Int×Int) (ag6:(Int×Int)->Option (Int)):Option (Int):=
 if a7.2<p0 then(Option.bind (g1 a7.2) fun r14=>(if r14=true then(ck (0<=a7.2) (rX a7 ag6 (Fy .u32 a7.1 (wJ .u32 (1:Int) a7.2))))else(rX a7 ag6 (a7.1))))else(vL  (a7.1))
def wN (fuel:Nat) (p0:Int) (g1:Int->Option Bool):Option (Int):=
 bG (mW p0 g1) fuel ((0:Int),(0:Int))
theorem We:aR Tryz.prog 86:=Tryz.call86
theorem Je (fuel:Nat) {p0:Int} {g1:Int->Option Bool} (f1:FuncId) (cs1:List Value) (Lf:List aW) (hb_g1:aR Tryz.prog f1) (hm_g1:∀(y0:Int) (r:Bool),g1 y0=some r->aV Tryz.prog f1 ([vI (y0)]++cs1).toArray Lf (fun _:Unit=>Value.bool (r)) (fun _ l=>l) (fun _ l=>l)) (r:Int) (h:wN fuel p0 g1=some r):
  aV Tryz.prog 86 #[vI (p0),Value.func (.func f1) #[] (cs1).toArray] ([]++Lf) (fun x:Unit=>vU (r)) (fun x l=>l) (fun _ l=>l):=by
 refine aV.of Tryz.func86 rfl Tryz.ntmps86 rfl fun c=>?_
 unfold wN at h
 refine sqR<|qkAsg rfl<|dtN<|sqR<|qkAsg rfl<|dtN<|aL<|Ca (B:=Unit) (fun a2=>vL  a2=some r) (fun a2 b3=>[(5,vU (a2))]) (fun a2 b3=>[]) (fun a2 b3=>([]++Lf)) ?_ ?_
 ·refine sqR<|qkMove rfl<|qkMove rfl<|dtN<|aQ<|EF (B:=Unit) (mW p0 g1) (fun a7 b8=>[(1,Value.func (.func f1) #[] (cs1).toArray),(5,vU (a7.1)),(7,vI (p0)),(8,vI (a7.2))]) (fun a7 b8=>[]) (fun a7 b8=>([]++Lf)) ((0:Int),(0:Int)) () h SF (aK.refl _) (aA.refl _ _) ?_
  clear h
  intro k9 a7 b8 h
  unfold mW at h
  refine sqR<|qkLss rfl<|dtN<|aL ?_
  refine eL h rfl (fun h=>?_) fun h=>?_
  ·refine iV<|aL<|Ca (B:=Unit) (fun a12=>rX a7 (bG (mW p0 g1) k9) a12=some r) (fun a12 b13=>[(1,Value.func (.func f1) #[] (cs1).toArray),(5,vU (a12)),(7,vI (p0)),(8,vI (a7.2))]) (fun a12 b13=>[]) (fun a12 b13=>([]++Lf)) ?_ ?_
   ·refine aQ<|sqR<|qkMove rfl<|qkAsg rfl<|dtN<|sqR<|qkMove rfl<|qkMove rfl ?_
    have⟨r14,w15,h⟩:=fE h
    refine aG (qB (vs:=[vI (a7.2)]) (cs:=cs1) hb_g1 rfl (hm_g1 a7.2 r14 w15) rfl (aA.tail _) (fun _ _=>rfl)) rfl fun x16=>dtN ?_
    refine zJ h rfl (fun _ h=>?_) fun _ h=>?_
    ·refine aO<|qkMove rfl<|qkMove rfl ?_
     have⟨j18,h⟩:=aH h
     refine aB (Ft rfl rfl j18) rfl<|aB (Oj rfl rfl) rfl<|qkAsg rfl<|dY<|inT ?_
     exact iJ (Fy .u32 a7.1 (wJ .u32 (1:Int) a7.2)) () h SF rfl
    refine cU<|inT ?_
    exact iJ (a7.1) () h SF rfl
   clear h
   intro a12 b13 h
   unfold rX at h
   refine aO<|qkAdd rfl<|qkMove rfl<|dtN ?_
   exact xK (a12,(wI .i64 (a7.2+(1:Int)))) () h SF rfl
  refine xO ?_
  exact iJ (a7.1) () h SF rfl
 clear h
 intro a2 b3 h
 unfold vL at h
 refine sqR<|qkMove rfl<|qkAsg rfl<|dtN<|aS ?_
 cases h
 exact lP rfl
end Go.Proofs.YtigggfnchamobaaGreatDoor
end
section
namespace Go.Proofs.YtigggfnchamobaaGreatDoor
open Go.Sx
def fX (fuel:Nat) (p0:Int) (p1:(ByteArray×(List (ByteArray×Int×Int×Int×Int×Int))×(List (ByteArray×(Value×List (Int×Int))×(Value×List (Int×(Value×List (Int×Int)))))))×((ByteArray×(List (ByteArray×Int×Int×Int×Int×Int))×(List (ByteArray×(Value×List (Int×Int))×(Value×List (Int×(Value×List (Int×Int)))))))×(List (Int)×(List (List (Int×Int))))×Int×List (List (Int)))×(List (List (Int×Int)))) (p2:List (List (Int))):Option (Bool):=
 Option.bind (dX fuel ((((p1.1.1,p1.1.2.1,p1.1.2.2)),((((p1.2.1.1.1,p1.2.1.1.2.1,p1.2.1.1.2.2)),((p1.2.1.2.1.1,p1.2.1.2.1.2)),p1.2.1.2.2.1,p1.2.1.2.2.2)),p1.2.2)) p2 p0) fun r1=>(some (decide ((0:Int)<=r1)))
theorem Wg:aR Tryz.prog 87:=Tryz.call87
theorem xP (fuel:Nat) {p0:Int} {p1:(ByteArray×(List (ByteArray×Int×Int×Int×Int×Int))×(List (ByteArray×(Value×List (Int×Int))×(Value×List (Int×(Value×List (Int×Int)))))))×((ByteArray×(List (ByteArray×Int×Int×Int×Int×Int))×(List (ByteArray×(Value×List (Int×Int))×(Value×List (Int×(Value×List (Int×Int)))))))×(List (Int)×(List (List (Int×Int))))×Int×List (List (Int)))×(List (List (Int×Int)))} {p2:List (List (Int))} (bx0:Nat)  (bx1:Nat)  (v2:Value)  (v3:Value)  (bx4:Nat)  (v5:Value)  (v6:Value)  (v7:Value)  (v8:Value)  (z9:List (Value×List (Int×Int)))  (v10:Value)  (z11:List (Value×List (Int)))  (v12:Value)  (z13:List (Value×List (Int×Int)))  (bx14:Nat)  (v15:Value)  (z16:List (Value×List (Int))) (r:Bool) (h:fX fuel p0 p1 p2=some r):
  aV Tryz.prog 87 #[vI (p0),vP bx0,vP bx14] [bO bx0 [vP bx1] 93,bO bx1 [Value.string (p1.1.1),v2,v3,vP bx4,v12] 140,Sl aP v2 p1.1.2.1,Sl aI v3 p1.1.2.2,bO bx4 [Value.string (p1.2.1.1.1),v5,v6,v7,v8,vI (p1.2.1.2.2.1),v10] 178,Sl aP v5 p1.2.1.1.2.1,Sl aI v6 p1.2.1.1.2.2,Sl bM v7 p1.2.1.2.1.1,S2 aZ v8 z9 p1.2.1.2.1.2,S2 bM v10 z11 p1.2.1.2.2.2,S2 aZ v12 z13 p1.2.2,bO bx14 [v15] 36,S2 bM v15 z16 p2] (fun x:Unit=>Value.bool (r)) (fun x l=>l) (fun _ l=>l):=by
 refine aV.of Tryz.func87 rfl Tryz.ntmps87 rfl fun c=>?_
 unfold fX at h
 refine sqR<|qkAsg rfl<|dtN<|sqR<|aB (dG rfl (aC.fact 0 rfl) rfl rfl rfl) rfl<|aB (dG rfl (aC.fact 11 rfl) rfl rfl rfl) rfl<|qkMove rfl ?_
 have⟨r1,w2,h⟩:=fE h
 refine aG (aM.callQ Qo (vS fuel bx1 v2 v3 bx4 v5 v6 v7 v8 z9 v10 z11 v12 z13 v15 z16 r1 w2) rfl (aA.cons (aC.fact 1 rfl) (aA.cons (aC.fact 2 rfl) (aA.cons (aC.fact 3 rfl) (aA.cons (aC.fact 4 rfl) (aA.cons (aC.fact 5 rfl) (aA.cons (aC.fact 6 rfl) (aA.cons (aC.fact 7 rfl) (aA.cons (aC.fact 8 rfl) (aA.cons (aC.fact 9 rfl) (aA.cons (aC.fact 10 rfl) (aA.cons (aC.fact 12 rfl) .nil)))))))))))) rfl fun x3=>aB (Ef rfl rfl) rfl<|qkAsg rfl<|dtN<|aS ?_
 cases h
 exact lP rfl
end Go.Proofs.YtigggfnchamobaaGreatDoor
end
section
namespace Go.Proofs.YtigggfnchamobaaGreatDoor
open Go.Sx
def cT (fuel:Nat) (p0:(ByteArray×(List (ByteArray×Int×Int×Int×Int×Int))×(List (ByteArray×(Value×List (Int×Int))×(Value×List (Int×(Value×List (Int×Int)))))))×((ByteArray×(List (ByteArray×Int×Int×Int×Int×Int))×(List (ByteArray×(Value×List (Int×Int))×(Value×List (Int×(Value×List (Int×Int)))))))×(List (Int)×(List (List (Int×Int))))×Int×List (List (Int)))×(List (List (Int×Int)))) (p1:List (List (Int))):Option (Int):=
 Option.bind (wN fuel (List.length p0.2.2:Int) (fun y0=>fX fuel y0 ((((p0.1.1,p0.1.2.1,p0.1.2.2)),((((p0.2.1.1.1,p0.2.1.1.2.1,p0.2.1.1.2.2)),((p0.2.1.2.1.1,p0.2.1.2.1.2)),p0.2.1.2.2.1,p0.2.1.2.2.2)),p0.2.2)) p1)) fun r4=>(some (r4))
theorem Qm:aR Tryz.prog 57:=Tryz.call57
theorem tH (fuel:Nat) {p0:(ByteArray×(List (ByteArray×Int×Int×Int×Int×Int))×(List (ByteArray×(Value×List (Int×Int))×(Value×List (Int×(Value×List (Int×Int)))))))×((ByteArray×(List (ByteArray×Int×Int×Int×Int×Int))×(List (ByteArray×(Value×List (Int×Int))×(Value×List (Int×(Value×List (Int×Int)))))))×(List (Int)×(List (List (Int×Int))))×Int×List (List (Int)))×(List (List (Int×Int)))} {p1:List (List (Int))} (bx0:Nat)  (v1:Value)  (v2:Value)  (bx3:Nat)  (v4:Value)  (v5:Value)  (v6:Value)  (v7:Value)  (z8:List (Value×List (Int×Int)))  (v9:Value)  (z10:List (Value×List (Int)))  (v11:Value)  (z12:List (Value×List (Int×Int)))  (v13:Value)  (z14:List (Value×List (Int))) (r:Int) (h:cT fuel p0 p1=some r):
  aV Tryz.prog 57 #[vP bx0,v13] [bO bx0 [Value.string (p0.1.1),v1,v2,vP bx3,v11] 140,Sl aP v1 p0.1.2.1,Sl aI v2 p0.1.2.2,bO bx3 [Value.string (p0.2.1.1.1),v4,v5,v6,v7,vI (p0.2.1.2.2.1),v9] 178,Sl aP v4 p0.2.1.1.2.1,Sl aI v5 p0.2.1.1.2.2,Sl bM v6 p0.2.1.2.1.1,S2 aZ v7 z8 p0.2.1.2.1.2,S2 bM v9 z10 p0.2.1.2.2.2,S2 aZ v11 z12 p0.2.2,S2 bM v13 z14 p1] (fun x:Unit=>vU (r)) (fun x l=>l) (fun _ l=>l):=by
 refine aV.of Tryz.func57 rfl Tryz.ntmps57 rfl fun c=>?_
 unfold cT at h
 refine sqR<|aG (aM.box (cs:=[vP bx0]) rfl rfl) rfl fun b1=>bZ (Know.one (aC.sl (aC.fact 10 rfl))) fun ho3=>?_
 refine aG (aM.box (cs:=[v13]) rfl (by rw[jD ho3])) rfl fun b2=>?_
 refine qkAsg rfl<|dtN<|sqR<|qkLd 1 rfl<|aB (bQ rfl) rfl<|qkFld rfl<|aB (dG rfl (aC.fact 0 rfl) rfl rfl rfl) rfl<|aB (iX rfl (aC.fact 9 rfl) rfl) rfl<|aB (sS (cs:=[.tmp 2,.tmp 3]) (vs:=[vP b1,vP b2]) rfl) rfl ?_
 have⟨r4,w5,h⟩:=fE h
 refine aG (aM.callQ We (Je fuel 87 [vP b1,vP b2] [bO b1 [vP bx0] 93,bO bx0 [Value.string (p0.1.1),v1,v2,vP bx3,v11] 140,Sl aP v1 p0.1.2.1,Sl aI v2 p0.1.2.2,bO bx3 [Value.string (p0.2.1.1.1),v4,v5,v6,v7,vI (p0.2.1.2.2.1),v9] 178,Sl aP v4 p0.2.1.1.2.1,Sl aI v5 p0.2.1.1.2.2,Sl bM v6 p0.2.1.2.1.1,S2 aZ v7 z8 p0.2.1.2.1.2,S2 bM v9 z10 p0.2.1.2.2.2,S2 aZ v11 z12 p0.2.2,bO b2 [v13] 36,S2 bM v13 z14 p1] Wg (fun y0 r h=>xP fuel b1 bx0 v1 v2 bx3 v4 v5 v6 v7 z8 v9 z10 v11 z12 b2 v13 z14 r h) r4 w5) rfl (aA.cons (aC.res 1 rfl) (aA.cons (aC.fact 0 rfl) (aA.cons (aC.fact 1 rfl) (aA.cons (aC.fact 2 rfl) (aA.cons (aC.fact 3 rfl) (aA.cons (aC.fact 4 rfl) (aA.cons (aC.fact 5 rfl) (aA.cons (aC.fact 6 rfl) (aA.cons (aC.fact 7 rfl) (aA.cons (aC.fact 8 rfl) (aA.cons (aC.fact 9 rfl) (aA.cons (aC.res 0 rfl) (aA.cons (aC.fact 10 rfl) .nil)))))))))))))) rfl fun x6=>qkAsg rfl<|dtN<|aS ?_
 cases h
 exact vJ rfl
end Go.Proofs.YtigggfnchamobaaGreatDoor
end
section
namespace Go.Proofs.YtigggfnchamobaaGreatDoor
open Go Go.Sx
abbrev RL:=E×List (Nat×E)
abbrev yM:=Eu×GR×Int×List (List Int)
def FP (R:List RL):List (List (Int×Int)×List (Int×List (Int×Int))):=R.map fun r=>(r.1.ts,r.2.map fun s=>((s.1:Int),s.2.ts))
def Hx (nv:Nat) (e:E):Bool:=e.wf nv false&&decide (e.depth<=100)&&decide (e.ts.length<=800)
def w_ (nv:Nat) (R:List RL):Bool:=decide (R.length<=20)&&R.all fun r=>Hx nv r.1&&decide (r.2.length<=20)&&r.2.all fun s=>decide (s.1<nv)&&Hx nv s.2
instance:Inhabited E:=⟨.lf 1 0⟩
def uN (S:yM) (c:List (List Int)) (v:Nat) (e:E):Int:=e.den (Vh (S,c,(v:Int),[])) (row S.2.1 v).length (-1)
def rD (S:yM) (R:List RL) (c:List (List Int)) (v:Nat):Int:=zO (R.map fun r=>uN S c v r.1)
def LF (kind:Int) (b:Int×Int) (x:Int):Int:=if b.1<=x∧x<=b.2 then x else if kind=3 then -1 else if x<b.1 then b.1 else b.2
def Pb (S:yM) (vars:List EI) (c:List (List Int)) (v:Nat) (st:List Int) (s:Nat×E):List Int:=st.set s.1 (LF (at' vars (s.1:Int)).2.1 (FK S.2.1 vars v s.1) (uN S c v s.2))
def Aj (S:yM) (vars:List EI) (R:List RL) (c:List (List Int)) (v:Nat) (i:Int):List Int:=(at' R i).2.foldl (Pb S vars c v) (at' c (v:Int))
def Xh (S:yM) (R:List RL) (c:List (List Int)):Nat:=kS (fun v=>decide (0<=rD S R c v)) S.2.1.2.length
def qO (S:yM) (vars:List EI) (R:List RL) (c:List (List Int)) (t:Nat):List (List Int):=(List.range c.length).map fun v=>if t.testBit v=true then Aj S vars R c v (rD S R c v)else at' c (v:Int)
structure tR (g:GR) (nv:Nat) (c:List (List Int)):Prop where
 len:c.length=g.2.length
 row:∀v:Nat,v<g.2.length->(at' c (v:Int)).length=nv
theorem UZ.shape {g:GR} {c:List (List Int)} {vars:List EI} (h:UZ g c vars):tR g vars.length c:=⟨h.len,h.row⟩
section
variable {S:yM} {nv:Nat} {c:List (List Int)} {v:Nat}
theorem wok (hV:VG S.2.1) (hc:tR S.2.1 nv c) (hv:v<S.2.1.2.length) (ts:List (Int×Int)):YW (S,c,(v:Int),ts) nv S.2.1.2.length v:=by
 refine⟨rfl,hv,rfl,hV.len,hc.len,hc.row,fun u hu i hi=> ?_⟩
 obtain⟨w,h1,h2⟩:=hV.to hu hi
 show 0<=(iO (row S.2.1 u) i).1∧(iO (row S.2.1 u) i).1<_
 rw[h2];omega
theorem KY (hV:VG S.2.1) (hc:tR S.2.1 nv c) (hv:v<S.2.1.2.length) {e:E} (he:Hx nv e=true):eD 1000 S c (v:Int) e.ts=some (uN S c v e):=by
 simp only[Hx,Bool.and_eq_true,decide_eq_true_eq]at he
 have h24:=hV.n24
 have hdeg:=(hV.node v hv).deg
 unfold eD
 have:=SA (wok hV hc hv e.ts) (deg:=(row S.2.1 v).length) rfl (by omega) he.2 e false 1000 0 (-1) [] [] (by simp) rfl he.1.1 (fun h=>by cases h) (by omega)
 rw[bH (show bN 1000 _ (0:Int) (-1)=_ from this)]
 rfl
end
section
variable {p:Eu} {g:GR} {gr:Int} {bk:List (List Int)} {R:List RL} {nv:Nat} {c:List (List Int)} {v:Nat}
theorem CZ (hz:p.2.2.map xN=FP R):p.2.2.length=R.length:=by simpa [FP]using congrArg List.length hz
theorem NC (hz:p.2.2.map xN=FP R) {i:Nat} (hi:i<R.length):xN (at' p.2.2 (i:Int))=((at' R (i:Int)).1.ts,(at' R (i:Int)).2.map fun s=>((s.1:Int),s.2.ts)):=by
 have hl:=CZ hz
 have:=congrArg (fun q=>q[i]?) hz
 simp only[FP,List.getElem?_map,List.getElem?_eq_getElem hi,List.getElem?_eq_getElem (show i<p.2.2.length by omega),Option.map_some,Option.some.injEq]at this
 rw[kA hi,kA (show i<p.2.2.length by omega)];exact this
theorem NH (hR:w_ nv R=true) {i:Nat} (hi:i<R.length):Hx nv (at' R (i:Int)).1=true∧(at' R (i:Int)).2.length<=20∧∀s∈(at' R (i:Int)).2,s.1<nv∧Hx nv s.2=true:=by
 simp only[w_,Bool.and_eq_true,List.all_eq_true,decide_eq_true_eq]at hR
 have:=hR.2 (at' R (i:Int)) (by rw[kA hi];exact List.getElem_mem hi)
 exact⟨this.1.1,this.1.2,fun s hs=>this.2 s hs⟩
theorem UI (hR:w_ nv R=true):R.length<=20:=by
 simp only[w_,Bool.and_eq_true,decide_eq_true_eq]at hR
 exact hR.1
theorem QY (hV:VG g) (hc:tR g nv c) (hv:v<g.2.length) (hz:p.2.2.map xN=FP R) (hR:w_ nv R=true) {i:Nat} (hi:i<R.length):gK 1000 (p,g,gr,bk) c (v:Int) (i:Int)=some (nz (uN (p,g,gr,bk) c v (at' R (i:Int)).1)):=by
 have hl:=CZ hz
 have e:(at' p.2.2 (i:Int)).2.1.2=(at' R (i:Int)).1.ts:=congrArg Prod.fst (NC hz hi)
 unfold gK
 dsimp only
 rw[dK (by omega),e]
 rw[bH (show eD 1000 _ c (v:Int) _=_ from KY (S:=(p,g,gr,bk)) hV hc hv (NH hR hi).1)]
 rfl
theorem NI (hV:VG g) (hc:tR g nv c) (hv:v<g.2.length) (hz:p.2.2.map xN=FP R) (hR:w_ nv R=true) (tab:List (List (Int×Int))):dX 1000 (p,(p,g,gr,bk),tab) c (v:Int)=some (rD (p,g,gr,bk) R c v):=by
 have hl:=CZ hz
 have h20:=UI hR
 let l:=R.map fun r=>uN (p,g,gr,bk) c v r.1
 have hll:l.length=R.length:=by simp[l]
 have hat:∀i,i<R.length->at' l (i:Int)=uN (p,g,gr,bk) c v (at' R (i:Int)).1:=fun i hi=>by
  rw[kA (by omega),kA hi];simp[l]
 have stp:∀(k:Nat) ag,k<R.length->gJ 1000 (p,(p,g,gr,bk),tab) c (v:Int) (k:Int) ag=if nz (at' l (k:Int))=true then some (k:Int)else ag (((k+1:Nat):Int)):=by
  intro k ag hk
  unfold gJ
  dsimp only
  rw[if_pos (by omega),bH (show gK 1000 _ c (v:Int) (k:Int)=_ from QY hV hc hv hz hR hk),hat k hk,eW (by omega)]
 unfold dX rD
 by_cases hx:∃i,i<R.length∧at' l (i:Int)≠0
 ·obtain⟨i,hi,h0⟩:=hx
  obtain⟨m,h1,h2,h3⟩:=HE (p:=fun i=>at' l (i:Int)≠0) i h0
  have h3:∀j,j<m->at' l (j:Int)=0:=fun j hj=>Decidable.not_not.1 (h3 j hj)
  rw[show zO _=(m:Int)from xX (l:=l) (by omega) h2 h3]
  exact dW (K:=some (m:Int)) m (fun k=>(k:Int)) (fun k ag hk=>by rw[stp k ag (by omega),if_neg (by simp[nz,h3 k hk])]) (fun ag=>by rw[stp m ag (by omega),if_pos (by simpa [nz]using h2)]) 1000 (by omega)
 ·have hx:∀j,j<l.length->at' l (j:Int)=0:=fun j hj=>Decidable.not_not.1 fun e=>hx ⟨j,by omega,e⟩
  rw[show zO _=(-1:Int)from xW (l:=l) hx]
  exact dW (K:=some (-1)) R.length (fun k=>(k:Int)) (fun k ag hk=>by rw[stp k ag hk,if_neg (by simp[nz,hx k (by omega)])]) (fun ag=>by
   unfold gJ lW
   dsimp only
   rw[if_neg (by omega)]) 1000 (by omega)
theorem Gu (S:yM) (R:List RL) (c:List (List Int)) (v:Nat):rD S R c v = -1∨∃i:Nat,rD S R c v=(i:Int)∧i<R.length∧uN S c v (at' R (i:Int)).1≠0:=by
 let l:=R.map fun r=>uN S c v r.1
 by_cases hx:∃i,i<l.length∧at' l (i:Int)≠0
 ·obtain⟨i,hi,h0⟩:=hx
  obtain⟨m,h1,h2,h3⟩:=HE (p:=fun i=>at' l (i:Int)≠0) i h0
  have h3:∀j,j<m->at' l (j:Int)=0:=fun j hj=>Decidable.not_not.1 (h3 j hj)
  have hm:m<R.length:=by simp[l]at hi;omega
  refine .inr ⟨m,xX (l:=l) (by omega) h2 h3,hm,?_⟩
  have:at' l (m:Int)=uN S c v (at' R (m:Int)).1:=by rw[kA (by simpa [l]using hm),kA hm];simp[l]
  rw[<-this];exact h2
 ·exact .inl (xW (l:=l) fun j hj=>Decidable.not_not.1 fun e=>hx ⟨j,hj,e⟩)
theorem Gv {S:yM} {R:List RL} {c:List (List Int)} {v:Nat}:rD S R c v = -1↔∀i:Nat,i<R.length->uN S c v (at' R (i:Int)).1=0:=by
 let l:=R.map fun r=>uN S c v r.1
 have hat:∀i,i<R.length->at' l (i:Int)=uN S c v (at' R (i:Int)).1:=fun i hi=>by rw[kA (by simpa [l]using hi),kA hi];simp[l]
 constructor
 ·intro h i hi
  refine Decidable.not_not.1 fun e=> ?_
  obtain⟨m,h1,h2,h3⟩:=HE (p:=fun i=>at' l (i:Int)≠0) i (by rw[hat i hi];exact e)
  have h3:∀j,j<m->at' l (j:Int)=0:=fun j hj=>Decidable.not_not.1 (h3 j hj)
  have:rD S R c v=(m:Int):=xX (l:=l) (by simp[l];omega) h2 h3
  omega
 ·intro h
  exact xW (l:=l) fun j hj=>by rw[hat j (by simpa [l]using hj)];exact h j (by simpa [l]using hj)
theorem LP (hV:VG g) (hc:tR g nv c) (hz:p.2.2.map xN=FP R) (hR:w_ nv R=true) {tab:List (List (Int×Int))} (ht:tab.length=g.2.length):cT 1000 (p,(p,g,gr,bk),tab) c=some ((Xh (p,g,gr,bk) R c:Nat):Int):=by
 have h24:=hV.n24
 unfold cT wN
 let q:Nat->Bool:=fun v=>decide (0<=rD (p,g,gr,bk) R c v)
 have:=dW (step:=mW (tab.length:Int) (fun y0=>fX 1000 y0 (p,(p,g,gr,bk),tab) c)) (K:=some ((kS q g.2.length:Nat):Int)) g.2.length (fun k=>(((kS q k:Nat):Int),(k:Int))) (fun k ag hk=>by
  have hm:=zS q (k:=k) (by omega)
  unfold mW rX fX
  dsimp only
  rw[if_pos (by omega),bH (show Option.bind (dX 1000 _ c (k:Int)) _=some (q k) by rw[bH (show dX 1000 _ c (k:Int)=_ from NI hV hc hk hz hR tab)]),eW (by omega)]
  cases hq:q k with
  |true=>
   rw[if_pos rfl,dK (by omega),Fz hm (by omega)]
   simp only[kS,hq,if_true]
  |false=>
   rw[if_neg (by decide)]
   simp only[kS,hq];rfl) (fun ag=>by
  unfold mW vL
  dsimp only
  rw[if_neg (by omega)]) 1000 (by omega)
 rw[bH (show bG _ 1000 ((0:Int),(0:Int))=_ from this)]
 rfl
end
end Go.Proofs.YtigggfnchamobaaGreatDoor
end
section
namespace Go.Proofs.YtigggfnchamobaaGreatDoor
open Go Go.Sx
theorem Qq (f:Nat) (k:Int) (b:Int×Int) (x:Int):qK f k b x=some (LF k b x):=by
 unfold qK pA LF
 by_cases h1:b.1<=x
 ·by_cases h2:x<=b.2
  ·simp only[h1,h2,and_self,if_true,decide_true]
  ·simp only[h1,h2,and_false,if_true,if_false,decide_false,Bool.false_eq_true]
   split
   ·rfl
   ·split<;>rfl
 ·simp only[h1,false_and,if_false,Bool.false_eq_true]
  split
  ·rfl
  ·split<;>rfl
theorem KH {S:yM} {vars:List EI} {c:List (List Int)} {v:Nat} (l:List (Nat×E)) (st:List Int):(l.foldl (Pb S vars c v) st).length=st.length:=by
 induction l generalizing st with
 |nil=>rfl
 |cons s l ih=>rw[List.foldl_cons,ih];simp[Pb]
theorem HJ {S:yM} {vars:List EI} {R:List RL} {c:List (List Int)} {v:Nat} {i:Int}:(Aj S vars R c v i).length=(at' c (v:Int)).length:=KH _ _
section
variable {p:Eu} {g:GR} {gr:Int} {bk:List (List Int)} {R:List RL} {c:List (List Int)} {v:Nat}
theorem Ux (hV:VG g) (hp:Cd g p.2.1) (hc:tR g p.2.1.length c) (hv:v<g.2.length) (hz:p.2.2.map xN=FP R) (hR:w_ p.2.1.length R=true) {i:Nat} (hi:i<R.length):
  gY 1000 (p,(p,g,gr,bk),Ab g p.2.1) c (v:Int) (i:Int)=some (Aj (p,g,gr,bk) p.2.1 R c v (i:Int)):=by
 have h24:=hV.n24
 have hcl:=hc.len
 have hrow:=hc.row v hv
 have hvl:=hp.len
 have hl:=CZ hz
 have hpa:=NC hz hi
 obtain⟨-,hs20,hsets⟩:=NH hR hi
 have htab:(Ab g p.2.1).length=g.2.length:=by simp[Ab]
 have htv:at' (Ab g p.2.1) (v:Int)=BJ g p.2.1 v:=yZ _ hv
 have hrt:(BJ g p.2.1 v).length=p.2.1.length:=by simp[BJ]
 have e2:(at' p.2.2 (i:Int)).2.2.2.map (fun s=>(s.1,s.2.2))=(at' R (i:Int)).2.map fun s=>((s.1:Int),s.2.ts):=congrArg Prod.snd hpa
 have hsl:(at' p.2.2 (i:Int)).2.2.2.length=(at' R (i:Int)).2.length:=by simpa using congrArg List.length e2
 unfold gY
 dsimp only
 rw[dK (by omega),dK (by simp;omega),dK (by omega),List.nil_append]
 unfold Aj
 let sets:=(at' R (i:Int)).2
 have:=dW (step:=gH 1000 (p,(p,g,gr,bk),Ab g p.2.1) c (v:Int) (i:Int)) (K:=some (sets.foldl (Pb (p,g,gr,bk) p.2.1 c v) (at' c (v:Int)))) sets.length (fun k=>((k:Int),(sets.take k).foldl (Pb (p,g,gr,bk) p.2.1 c v) (at' c (v:Int)))) (fun k ag hk=>by
  have hk2:k<(at' p.2.2 (i:Int)).2.2.2.length:=by rw[hsl];exact hk
  have ek:((at' (at' p.2.2 (i:Int)).2.2.2 (k:Int)).1,(at' (at' p.2.2 (i:Int)).2.2.2 (k:Int)).2.2)=(((at' sets (k:Int)).1:Int),(at' sets (k:Int)).2.ts):=by
   have:=congrArg (fun q=>q[k]?) e2
   simp only[List.getElem?_map,List.getElem?_eq_getElem hk2,List.getElem?_eq_getElem (show k<(at' R (i:Int)).2.length from hk),Option.map_some,Option.some.injEq]at this
   rw[kA hk2,kA hk];exact this
  have ek1:=congrArg Prod.fst ek
  have ek2:=congrArg Prod.snd ek
  dsimp only at ek1 ek2
  obtain⟨hs1,hs2⟩:=hsets (at' sets (k:Int)) (by rw[kA hk];exact List.getElem_mem hk)
  have hstl:((sets.take k).foldl (Pb (p,g,gr,bk) p.2.1 c v) (at' c (v:Int))).length=p.2.1.length:=by rw[KH,hrow]
  have hcell:at' (BJ g p.2.1 v) ((at' sets (k:Int)).1:Int)=FK g p.2.1 v (at' sets (k:Int)).1:=yZ _ hs1
  have hsk:sets.length<=20:=hs20
  unfold gH
  dsimp only
  rw[if_pos (by omega),dK (by omega),ek1,ek2,bH (show eD 1000 _ c (v:Int) _=_ from KY (S:=(p,g,gr,bk)) hV hc hv hs2),dK (by omega),dK (by omega),htv,dK (by omega),hcell,bH (Qq 1000 _ _ _),dK (by omega),eW (by omega),Int.toNat_natCast,BB hk,List.foldl_append]
  rfl) (fun ag=>by
  unfold gH lV
  dsimp only
  rw[if_neg (by show¬(sets.length:Int)<_;rw[hsl];exact Int.lt_irrefl _),List.take_length]) 1000 (by show(at' R (i:Int)).2.length<1000;omega)
 exact this
theorem UM (hV:VG g) (hp:Cd g p.2.1) (hc:tR g p.2.1.length c) (hz:p.2.2.map xN=FP R) (hR:w_ p.2.1.length R=true) {t:Nat} (ht32:t<4294967296) (ht:∀v,t.testBit v=true->0<=rD (p,g,gr,bk) R c v):
  fN 1000 (p,(p,g,gr,bk),Ab g p.2.1) c (t:Int)=some (qO (p,g,gr,bk) p.2.1 R c t):=by
 have h24:=hV.n24
 have hcl:=hc.len
 have hvl:=hp.len
 unfold fN
 rw[bH (Nc c (by omega) (fun v hv=>by rw[hc.row v (by omega)];omega))]
 let f:Nat->List Int:=fun v=>if t.testBit v=true then Aj (p,g,gr,bk) p.2.1 R c v (rD (p,g,gr,bk) R c v)else at' c (v:Int)
 let Q:Nat->List (List Int):=fun k=>(List.range k).map f++c.drop k
 have hQ:∀k,k<=c.length->(Q k).length=c.length:=fun k hk=>by simp[Q];omega
 have hset:∀k,k<c.length->(Q k).set k (f k)=Q (k+1):=fun k hk=>by
  show((List.range k).map f++c.drop k).set k (f k)=(List.range (k+1)).map f++c.drop (k+1)
  rw[List.set_append_right _ _ (by simp),List.length_map,List.length_range,Nat.sub_self,List.drop_eq_getElem_cons hk,List.set_cons_zero,List.range_succ,List.map_append,List.map_singleton,List.append_assoc]
  rfl
 have hkeep:∀k,k<c.length->f k=at' c (k:Int)->Q k=Q (k+1):=fun k hk hf=>by
  show(List.range k).map f++c.drop k=(List.range (k+1)).map f++c.drop (k+1)
  rw[List.range_succ,List.drop_eq_getElem_cons hk,List.map_append,List.map_singleton,hf,kA hk]
  simp
 rw[show c=Q 0 by simp[Q]]
 refine dW (step:=eY 1000 (p,(p,g,gr,bk),Ab g p.2.1) (Q 0) (t:Int)) (K:=some (qO (p,g,gr,bk) p.2.1 R (Q 0) t)) c.length (fun k=>((k:Int),Q k)) (fun k ag hk=> ?_) (fun ag=> ?_) 1000 (by omega)
 ·rw[show Q 0=c by simp[Q]]
  unfold eY iR
  dsimp only
  rw[if_pos (by omega),dK (by omega),eW (by omega)]
  by_cases hb:t.testBit k=true
  ·obtain⟨i,hi,hil,_⟩:=(Gu (p,g,gr,bk) R c k).resolve_left (fun e=>by have:=ht k hb;omega)
   rw[if_pos ((F_ (by omega) ht32).2 hb),bH (show dX 1000 _ c (k:Int)=_ from NI hV hc (by omega) hz hR _),hi,bH (show gY 1000 _ c (k:Int) (i:Int)=_ from Ux hV hp hc (by omega) hz hR hil),dK (by rw[hQ k (by omega)];omega),Int.toNat_natCast]
   have:Aj (p,g,gr,bk) p.2.1 R c k (i:Int)=f k:=by simp only[f];rw[if_pos hb,hi]
   rw[this,hset k hk]
  ·rw[if_neg (fun q=>hb ((F_ (by omega) ht32).1 q)),hkeep k hk (by simp only[f];rw[if_neg hb])]
 ·rw[show Q 0=c by simp[Q]]
  unfold eY lX
  dsimp only
  rw[if_neg (by omega)]
  simp[Q,qO,f]
theorem HQ {S:yM} {vars:List EI} {t:Nat}:(qO S vars R c t).length=c.length:=by simp[qO]
theorem KJ {S:yM} {vars:List EI} {t:Nat} (hv:v<c.length):at' (qO S vars R c t) (v:Int)=if t.testBit v=true then Aj S vars R c v (rD S R c v)else at' c (v:Int):=yZ _ hv
theorem tR.step {S:yM} {vars:List EI} {t:Nat} {nv:Nat} {g:GR} (hc:tR g nv c):tR g nv (qO S vars R c t):=⟨by rw[HQ,hc.len],fun v hv=>by
 rw[KJ (by rw[hc.len];exact hv)]
 split
 ·rw[HJ,hc.row v hv]
 ·exact hc.row v hv⟩
end
end Go.Proofs.YtigggfnchamobaaGreatDoor
end
section
namespace Go.Proofs.YtigggfnchamobaaGreatDoor
open Go.Sx
def o_  (a2:Bool):Option (Bool):=
 some (a2)
def qJ (fuel:Nat) (p0:Int):Option (Bool):=
 if(1:Int)<=p0 then(o_  (decide (p0<=(4:Int))))else(o_  (false))
theorem Wb:aR Tryz.prog 79:=Tryz.call79
theorem Gy (fuel:Nat) {p0:Int} (r:Bool) (h:qJ fuel p0=some r):
  aV Tryz.prog 79 #[vI (p0)] [] (fun x:Unit=>Value.bool (r)) (fun x l=>l) (fun _ l=>l):=by
 refine aV.of Tryz.func79 rfl Tryz.ntmps79 rfl fun c=>?_
 unfold qJ at h
 refine sqR<|qkAsg rfl<|dtN<|aL<|midU (fun a2=>o_  a2=some r) (fun a2 b3=>[(2,Value.bool (a2))]) (fun a2 b3=>[]) ?_ ?_
 ·refine aO<|qkMove rfl<|aB (Ef rfl rfl) rfl<|qkMove rfl ?_
  refine Cy h rfl (fun _ h=>?_) fun _ h=>?_
  ·refine gyMove rfl<|aT rfl (Ai rfl rfl) rfl<|aB (bW rfl rfl) rfl<|qkAsg rfl<|dtN ?_
   exact iJ (decide (p0<=(4:Int))) () h SF rfl
  refine gdSkip rfl<|gdSkip rfl<|aB (cA rfl rfl) rfl<|qkAsg rfl<|dtN ?_
  exact iJ (false) () h SF rfl
 clear h
 intro a2 b3 h
 unfold o_ at h
 refine aS ?_
 cases h
 exact lP rfl
end Go.Proofs.YtigggfnchamobaaGreatDoor
end
section
namespace Go.Proofs.YtigggfnchamobaaGreatDoor
open Go.Sx
def tG (fuel:Nat) (p0:ByteArray×(List (ByteArray×Int×Int×Int×Int×Int))×(List (ByteArray×(Value×List (Int×Int))×(Value×List (Int×(Value×List (Int×Int))))))) (p1:List (Int)×(List (List (Int×Int)))) (p2:Int) (p3:List (List (Int))) (p4:Int):Option (Int):=
 Option.bind (oA fuel ((p0.1,p0.2.1,p0.2.2)) ((p1.1,p1.2)) p3) fun r3=>(if r3≠(0:Int)then(some (r3))else(Option.bind (qJ fuel p2) fun r7=>(if(!r7)=true then(some (12:Int))else(if(4096:Int)<p4 then(some (3:Int))else(some (0:Int))))))
theorem VW:aR Tryz.prog 51:=Tryz.call51
theorem KM (fuel:Nat) {p0:ByteArray×(List (ByteArray×Int×Int×Int×Int×Int))×(List (ByteArray×(Value×List (Int×Int))×(Value×List (Int×(Value×List (Int×Int))))))} {p1:List (Int)×(List (List (Int×Int)))} {p2:Int} {p3:List (List (Int))} {p4:Int} (v0:Value)  (v1:Value)  (v2:Value)  (v3:Value)  (z4:List (Value×List (Int×Int)))  (v5:Value)  (z6:List (Value×List (Int))) (r:Int) (h:tG fuel p0 p1 p2 p3 p4=some r):
  aV Tryz.prog 51 #[Value.agg #[Value.string (p0.1),v0,v1],Value.agg #[v2,v3],vI (p2),v5,vI (p4)] [Sl aP v0 p0.2.1,Sl aI v1 p0.2.2,PF (Value.agg #[Value.string p0.1,v0,v1]),Sl bM v2 p1.1,S2 aZ v3 z4 p1.2,S2 bM v5 z6 p3] (fun x:Unit=>vI (r)) (fun x l=>l) (fun _ l=>l):=by
 refine aV.of Tryz.func51 rfl Tryz.ntmps51 rfl fun c=>?_
 unfold tG at h
 refine sqR<|aG (aM.box (cs:=[Value.string (p0.1),v0,v1]) rfl rfl) rfl fun b1=>aG (aM.box (cs:=[v2,v3]) rfl rfl) rfl fun b2=>qkAsg rfl<|dtN<|aL<|sqR<|qkLdA 1 rfl<|qkLdA 0 rfl<|qkMove rfl ?_
 have⟨r3,w4,h⟩:=fE h
 refine aG (aM.callQ Wa (GC fuel v0 v1 v2 v3 z4 v5 z6 r3 w4) rfl (aA.cons (aC.fact 0 rfl) (aA.cons (aC.fact 1 rfl) (aA.cons (aC.fact 2 rfl) (aA.cons (aC.fact 3 rfl) (aA.cons (aC.fact 4 rfl) (aA.cons (aC.fact 5 rfl) .nil))))))) rfl fun x5=>qkAsg rfl<|dtN<|sqR<|qkMove rfl<|aB (kR rfl rfl) rfl<|dtN ?_
 refine eL h rfl (fun h=>?_) fun h=>?_
 ·refine sqR<|qkMove rfl<|qkAsg rfl<|dtN<|aS<|aJ ?_
  cases h
  exact vJ rfl
 refine iV<|aL<|sqR<|qkMove rfl ?_
 have⟨r7,w8,h⟩:=fE h
 refine aG (aM.callQ Wb (Gy fuel  r7 w8) rfl .nil) rfl fun x9=>aB (oD rfl) rfl<|dtN ?_
 refine zJ h rfl (fun _ h=>?_) fun _ h=>?_
 ·refine sqR<|qkAsg rfl<|dtN<|aS<|aJ ?_
  cases h
  exact vJ rfl
 refine iV<|aL<|sqR<|qkMove rfl<|aB (tT rfl rfl) rfl<|dtN ?_
 refine eL h rfl (fun h=>?_) fun h=>?_
 ·refine sqR<|qkAsg rfl<|dtN<|aS<|aJ ?_
  cases h
  exact vJ rfl
 refine iV<|sqR<|qkAsg rfl<|dtN<|aS ?_
 cases h
 exact vJ rfl
end Go.Proofs.YtigggfnchamobaaGreatDoor
end
section
namespace Go.Proofs.YtigggfnchamobaaGreatDoor
open Go.Sx
def qY (fuel:Nat) (p0:List (List (Int))) (p1:Int) (p2:Int×Int×Int×Int×Int):Option (Unit):=
 some (())
theorem Ql:aR Tryz.prog 53:=Tryz.call53
theorem Dn (fuel:Nat) {p0:List (List (Int))} {p1:Int} {p2:Int×Int×Int×Int×Int} (v0:Value)  (z1:List (Value×List (Int))) (r:Unit) (h:qY fuel p0 p1 p2=some r):
  aV Tryz.prog 53 #[v0,vU (p1),Value.agg #[vI (p2.1),vI (p2.2.1),vI (p2.2.2.1),vI (p2.2.2.2.1),vU (p2.2.2.2.2)]] [S2 bM v0 z1 p0] (fun x:Unit=>Value.tuple #[]) (fun x l=>l) (fun _ l=>l):=by
 refine aV.of Tryz.func53 rfl Tryz.ntmps53 rfl fun c=>?_
 unfold qY at h
 refine aO<|aG (aM.box (cs:=[vI (p2.1),vI (p2.2.1),vI (p2.2.2.1),vI (p2.2.2.2.1),vU (p2.2.2.2.2)]) rfl rfl) rfl fun b1=>dY ?_
 cases h
 exact Bg () rfl rfl .normal (.inr rfl) .nil aA.nil
end Go.Proofs.YtigggfnchamobaaGreatDoor
end
section
namespace Go.Proofs.YtigggfnchamobaaGreatDoor
open Go.Sx
def sJ (fuel:Nat) (p0:Int):Option ((Int×Int×Int×Int×Int)):=
 some (((0:Int),(0:Int),(0:Int),(0:Int),(c_ .u32 p0 (16777215:Int))))
theorem To:aR Tryz.prog 111:=Tryz.call111
theorem Ey (fuel:Nat) {p0:Int} (r:(Int×Int×Int×Int×Int)) (h:sJ fuel p0=some r):
  aV Tryz.prog 111 #[vU (p0)] [] (fun x:Unit=>Value.agg #[vI (r.1),vI (r.2.1),vI (r.2.2.1),vI (r.2.2.2.1),vU (r.2.2.2.2)]) (fun x l=>l) (fun _ l=>l):=by
 refine aV.of Tryz.func111 rfl Tryz.ntmps111 rfl fun c=>?_
 unfold sJ at h
 refine sqR<|aG (aM.alloc (cs:=[vI (0:Int),vI (0:Int),vI (0:Int),vI (0:Int),vU (0:Int)]) rfl rfl) rfl fun b1=>dtN<|sqR<|qkMove rfl<|aB (oY rfl rfl) rfl ?_
 refine aB (PT (r:=Value.agg #[Value.int .i64 (0:Int),Value.int .i64 (0:Int),Value.int .i64 (0:Int),Value.int .i64 (0:Int),Value.int .u32 (c_ .u32 p0 (16777215:Int))]) rfl (by intro w;simp[Instr.build,Instr.fill,eN,dU,cY,eO,eP,dV,fS])) rfl ?_
 refine bI 0 (vs:=[vI (0:Int),vI (0:Int),vI (0:Int),vI (0:Int),vU (c_ .u32 p0 (16777215:Int))]) rfl rfl rfl rfl rfl rfl<|dtN<|aS ?_
 cases h
 exact fQ () rfl rfl (RV.cell 0 rfl rfl rfl rfl) .nil aA.nil
end Go.Proofs.YtigggfnchamobaaGreatDoor
end
section
namespace Go.Proofs.YtigggfnchamobaaGreatDoor
open Go.Sx
def nA  (a1:Unit):Option (Bool):=
 some (true)
def kJ (p0:List (Int)) (a5:Int) (ag4:(Int)->Option (Bool)):Option (Bool):=
 if a5<(List.length p0:Int)then(ck (0<=a5∧a5<(List.length p0:Int)) (if(sC .u32 (at' p0 a5) (16777215:Int))≠(0:Int)then(some (false))else(ag4 (wI .i64 (a5+(1:Int))))))else(nA  (()))
def jB (fuel:Nat) (p0:List (Int)):Option (Bool):=
 bG (kJ p0) fuel (0:Int)
theorem MV:aR Tryz.prog 136:=Tryz.call136
theorem xG (fuel:Nat) {p0:List (Int)} (v0:Value) (r:Bool) (h:jB fuel p0=some r):
  aV Tryz.prog 136 #[v0] [Sl wR v0 p0] (fun x:Unit=>Value.bool (r)) (fun x l=>l) (fun _ l=>l):=by
 refine aV.of Tryz.func136 rfl Tryz.ntmps136 rfl fun c=>?_
 unfold jB at h
 refine sqR<|qkAsg rfl<|dtN<|aL<|midU (fun a1=>nA  a1=some r) (fun a1 b2=>[]) (fun a1 b2=>[]) ?_ ?_
 ·refine sqR<|qkMove rfl<|aB (b_ rfl (aC.fact 0 rfl) rfl) rfl<|qkMove rfl<|dtN<|aQ<|loopL (kJ p0) (fun a5 b6=>[(5,v0),(6,vI (List.length p0:Int)),(7,vI (a5))]) (fun a5 b6=>[]) (0:Int) () h SF (aK.refl _) ?_
  clear h
  intro k7 a5 b6 h
  unfold kJ at h
  refine sqR<|qkLss rfl<|dtN<|aL ?_
  refine eL h rfl (fun h=>?_) fun h=>?_
  ·refine iV<|aL<|aQ<|sqR ?_
   have⟨j9,h⟩:=aH h
   refine aB (a_ rfl rfl (aC.fact 0 rfl) rfl rfl j9) rfl<|aB (bS rfl (aC.fact 0 rfl) rfl rfl rfl Cc j9) rfl<|qkAsg rfl<|dtN<|sqR<|qkMove rfl<|aB (AE rfl rfl) rfl<|aB (kR rfl rfl) rfl<|dtN ?_
   refine eL h rfl (fun h=>?_) fun h=>?_
   ·refine sqR<|qkAsg rfl<|dtN<|aS<|bK<|aJ<|aJ<|bK<|aJ ?_
    cases h
    exact lP rfl
   refine cU<|inT<|aO<|qkAdd rfl<|qkMove rfl<|dtN ?_
   exact xK (wI .i64 (a5+(1:Int))) () h SF rfl
  refine xO ?_
  exact iJ () (()) h SF rfl
 clear h
 intro a1 b2 h
 unfold nA at h
 refine sqR<|qkAsg rfl<|dtN<|aS ?_
 cases h
 exact lP rfl
end Go.Proofs.YtigggfnchamobaaGreatDoor
end
section
namespace Go.Proofs.YtigggfnchamobaaGreatDoor
open Go.Sx
def kV  (a8:Bool):Option (Bool):=
 some (a8)
def fR (fuel:Nat) (p0:Int×Int×Int×Int×Int) (a3:Bool):Option (Bool):=
 if a3=true then(some (false))else(if(wI .i64 (p0.2.2.1+(1:Int)))<p0.2.2.2.1 then(some (false))else(if p0.1<=p0.2.1 then(if p0.2.1<=(wI .i64 ((24:Int)*p0.1))then(Option.bind (jB fuel ([p0.2.2.2.2])) fun r13=>(kV  (r13)))else(kV  (false)))else(kV  (false))))
def mC (fuel:Nat) (p0:Int×Int×Int×Int×Int):Option (Bool):=
 if p0.1<(0:Int)then(fR fuel p0 (true))else(if(4096:Int)<p0.1 then(fR fuel p0 (true))else(if p0.2.2.1<(0:Int)then(fR fuel p0 (true))else(if p0.2.2.2.1<p0.2.2.1 then(fR fuel p0 (true))else(fR fuel p0 (decide (p0.1<p0.2.2.2.1))))))
theorem TA:aR Tryz.prog 135:=Tryz.call135
theorem Ez (fuel:Nat) {p0:Int×Int×Int×Int×Int} (r:Bool) (h:mC fuel p0=some r):
  aV Tryz.prog 135 #[Value.agg #[vI (p0.1),vI (p0.2.1),vI (p0.2.2.1),vI (p0.2.2.2.1),vU (p0.2.2.2.2)]] [] (fun x:Unit=>Value.bool (r)) (fun x l=>l) (fun _ l=>l):=by
 refine aV.of Tryz.func135 rfl Tryz.ntmps135 rfl fun c=>?_
 unfold mC at h
 refine sqR<|aG (aM.box (cs:=[vI (p0.1),vI (p0.2.1),vI (p0.2.2.1),vI (p0.2.2.2.1),vU (p0.2.2.2.2)]) rfl rfl) rfl fun b1=>qkAsg rfl<|dtN<|aL<|aL<|midU (fun a3=>fR fuel p0 a3=some r) (fun a3 b4=>[(1,vP b1),(29,Value.bool (a3))]) (fun a3 b4=>[bO b1 [vI (p0.1),vI (p0.2.1),vI (p0.2.2.1),vI (p0.2.2.2.1),vU (p0.2.2.2.2)] 42]) ?_ ?_
 ·refine aO<|qkFld rfl<|qkLd 0 rfl<|qkLss rfl<|qkMove rfl ?_
  refine Cy h rfl (fun _ h=>?_) fun _ h=>?_
  ·refine gdSkip rfl<|gdSkip rfl<|gdSkip rfl<|aB (bW rfl rfl) rfl<|qkMove rfl<|gdSkip rfl<|gdSkip rfl<|gdSkip rfl<|aB (bW rfl rfl) rfl<|qkMove rfl<|gdSkip rfl<|gdSkip rfl<|gdSkip rfl<|gdSkip rfl<|gdSkip rfl<|aB (bW rfl rfl) rfl<|qkMove rfl<|gdSkip rfl<|gdSkip rfl<|gdSkip rfl<|gdSkip rfl<|gdSkip rfl<|aB (bW rfl rfl) rfl<|dtN ?_
   exact iJ (true) () h SF rfl
  refine aT rfl (dD rfl rfl rfl rfl rfl) rfl<|aT rfl (dO 0 rfl rfl rfl rfl rfl) rfl<|aT rfl (tT rfl rfl) rfl<|aB (cA rfl rfl) rfl<|qkMove rfl ?_
  refine Cy h rfl (fun _ h=>?_) fun _ h=>?_
  ·refine gdSkip rfl<|gdSkip rfl<|gdSkip rfl<|aB (bW rfl rfl) rfl<|qkMove rfl<|gdSkip rfl<|gdSkip rfl<|gdSkip rfl<|gdSkip rfl<|gdSkip rfl<|aB (bW rfl rfl) rfl<|qkMove rfl<|gdSkip rfl<|gdSkip rfl<|gdSkip rfl<|gdSkip rfl<|gdSkip rfl<|aB (bW rfl rfl) rfl<|dtN ?_
   exact iJ (true) () h SF rfl
  refine aT rfl (dD rfl rfl rfl rfl rfl) rfl<|aT rfl (dO 0 rfl rfl rfl rfl rfl) rfl<|aT rfl (Hm rfl rfl) rfl<|aB (cA rfl rfl) rfl<|qkMove rfl ?_
  refine Cy h rfl (fun _ h=>?_) fun _ h=>?_
  ·refine gdSkip rfl<|gdSkip rfl<|gdSkip rfl<|gdSkip rfl<|gdSkip rfl<|aB (bW rfl rfl) rfl<|qkMove rfl<|gdSkip rfl<|gdSkip rfl<|gdSkip rfl<|gdSkip rfl<|gdSkip rfl<|aB (bW rfl rfl) rfl<|dtN ?_
   exact iJ (true) () h SF rfl
  refine aT rfl (dD rfl rfl rfl rfl rfl) rfl<|aT rfl (dO 0 rfl rfl rfl rfl rfl) rfl<|aT rfl (dD rfl rfl rfl rfl rfl) rfl<|aT rfl (dO 0 rfl rfl rfl rfl rfl) rfl<|aT rfl (tT rfl rfl) rfl<|aB (cA rfl rfl) rfl<|qkMove rfl ?_
  refine Cy h rfl (fun _ h=>?_) fun _ h=>?_
  ·refine gdSkip rfl<|gdSkip rfl<|gdSkip rfl<|gdSkip rfl<|gdSkip rfl<|aB (bW rfl rfl) rfl<|dtN ?_
   exact iJ (true) () h SF rfl
  refine aT rfl (dD rfl rfl rfl rfl rfl) rfl<|aT rfl (dO 0 rfl rfl rfl rfl rfl) rfl<|aT rfl (dD rfl rfl rfl rfl rfl) rfl<|aT rfl (dO 0 rfl rfl rfl rfl rfl) rfl<|aT rfl (tT rfl rfl) rfl<|aB (cA rfl rfl) rfl<|dtN ?_
  exact iJ (decide (p0.1<p0.2.2.2.1)) () h SF rfl
 clear h
 intro a3 b4 h
 unfold fR at h
 refine zJ h rfl (fun _ h=>?_) fun _ h=>?_
 ·refine sqR<|qkAsg rfl<|dtN<|aS<|aJ ?_
  cases h
  exact vJ rfl
 refine iV<|aL<|sqR<|qkFld rfl<|qkLd 0 rfl<|qkFld rfl<|qkLd 0 rfl<|qkAdd rfl<|aB (tT rfl rfl) rfl<|dtN ?_
 refine eL h rfl (fun h=>?_) fun h=>?_
 ·refine sqR<|qkAsg rfl<|dtN<|aS<|aJ ?_
  cases h
  exact vJ rfl
 refine iV<|aL<|midU (fun a8=>kV  a8=some r) (fun a8 b9=>[(2,Value.bool (a8))]) (fun a8 b9=>[]) ?_ ?_
 ·refine aO<|qkFld rfl<|qkLd 0 rfl<|qkFld rfl<|qkLd 0 rfl<|aB (Ai rfl rfl) rfl<|qkMove rfl ?_
  refine Cy h rfl (fun _ h=>?_) fun _ h=>?_
  ·refine aT rfl (dD rfl rfl rfl rfl rfl) rfl<|aT rfl (dO 0 rfl rfl rfl rfl rfl) rfl<|aT rfl (dD rfl rfl rfl rfl rfl) rfl<|aT rfl (dO 0 rfl rfl rfl rfl rfl) rfl<|aT rfl (tU rfl rfl) rfl<|aT rfl (Ai rfl rfl) rfl<|aB (bW rfl rfl) rfl<|qkMove rfl ?_
   refine Cy h rfl (fun _ h=>?_) fun _ h=>?_
   ·refine aT rfl (dD rfl rfl rfl rfl rfl) rfl<|aT rfl (dO 0 rfl rfl rfl rfl rfl) rfl<|qT rfl (cE (e:=jV) ([p0.2.2.2.2]) [(0,vU (p0.2.2.2.2))] rfl rfl rfl rfl (mM (vU (p0.2.2.2.2)) rfl) rfl rfl rfl) rfl fun u12=>?_
    have⟨r13,w14,h⟩:=fE h
    refine qT rfl (aM.callQ MV (xG fuel u12 r13 w14) rfl (aA.cons (aU (aC.res 0 rfl) kU) .nil)) rfl fun x15=>aB (bW rfl rfl) rfl<|qkAsg rfl<|dtN ?_
    exact cF (r13) () h SF .nil (aA.refl _ _)
   refine gdSkip rfl<|gdSkip rfl<|gdSkip rfl<|gdSkip rfl<|aB (cA rfl rfl) rfl<|qkAsg rfl<|dtN ?_
   exact cF (false) () h SF .nil (aA.refl _ _)
  refine gdSkip rfl<|gdSkip rfl<|gdSkip rfl<|gdSkip rfl<|gdSkip rfl<|gdSkip rfl<|aB (cA rfl rfl) rfl<|qkMove rfl<|gdSkip rfl<|gdSkip rfl<|gdSkip rfl<|gdSkip rfl<|aB (cA rfl rfl) rfl<|qkAsg rfl<|dtN ?_
  exact cF (false) () h SF .nil (aA.refl _ _)
 clear h
 intro a8 b9 h
 unfold kV at h
 refine aS ?_
 cases h
 exact lP rfl
end Go.Proofs.YtigggfnchamobaaGreatDoor
end
section
namespace Go.Proofs.YtigggfnchamobaaGreatDoor
open Go.Sx
def lJ (fuel:Nat) (p0:Int):Option (Int):=
 ck (0<=(24:Int)) (ck (0<=(oZ .u32 p0 (24:Int))∧(oZ .u32 p0 (24:Int))<(List.length SE:Int)) (ck (0<=(16:Int)) (ck (0<=(c_ .u32 (oZ .u32 p0 (16:Int)) (255:Int))∧(c_ .u32 (oZ .u32 p0 (16:Int)) (255:Int))<(List.length SE:Int)) (ck (0<=(8:Int)) (ck (0<=(c_ .u32 (oZ .u32 p0 (8:Int)) (255:Int))∧(c_ .u32 (oZ .u32 p0 (8:Int)) (255:Int))<(List.length SE:Int)) (ck (0<=(c_ .u32 p0 (255:Int))∧(c_ .u32 p0 (255:Int))<(List.length SE:Int)) (some (wI .i64 (wI .u8 ((wI .u8 ((wI .u8 ((at' SE (oZ .u32 p0 (24:Int)))+(at' SE (c_ .u32 (oZ .u32 p0 (16:Int)) (255:Int)))))+(at' SE (c_ .u32 (oZ .u32 p0 (8:Int)) (255:Int)))))+(at' SE (c_ .u32 p0 (255:Int)))))))))))))
theorem TC:aR Tryz.prog 137:=Tryz.call137
theorem Cr (fuel:Nat) {p0:Int} (r:Int) (h:lJ fuel p0=some r):
  aV Tryz.prog 137 #[vU (p0)] [] (fun x:Unit=>vI (r)) (fun x l=>l) (fun _ l=>l):=by
 refine aV.of Tryz.func137 rfl Tryz.ntmps137 rfl fun c=>?_
 unfold lJ at h
 refine sqR<|qkAsg rfl<|dtN<|aL ?_
 refine JR.start [0,1,3,0,8,24,56,127,0,256,768,1792,4095,0,8192,24576,65535,131071,262143] 16 mixedOrders (by decide +kernel) ?_
 refine JR.open (by exact rfl) ?_
 refine jkMove rfl ?_
 have⟨j1,h⟩:=aH h
 refine aN rfl .nil .nil (AG rfl rfl j1) aD.z ?_
 have⟨j2,h⟩:=aH h
 refine aN rfl .nil .nil (zI rfl rfl rfl Iw j2) aD.z<|jkMove rfl ?_
 have⟨j3,h⟩:=aH h
 refine aN rfl .nil .nil (AG rfl rfl j3) aD.z<|aN rfl .nil .nil (oY rfl rfl) aD.z ?_
 have⟨j4,h⟩:=aH h
 refine aN rfl .nil .nil (zI rfl rfl rfl Iw j4) aD.z<|aN rfl .nil .nil (pS rfl rfl) aD.z<|jkMove rfl ?_
 have⟨j5,h⟩:=aH h
 refine aN rfl .nil .nil (AG rfl rfl j5) aD.z<|aN rfl .nil .nil (oY rfl rfl) aD.z ?_
 have⟨j6,h⟩:=aH h
 refine aN rfl .nil .nil (zI rfl rfl rfl Iw j6) aD.z<|aN rfl .nil .nil (pS rfl rfl) aD.z<|jkMove rfl<|aN rfl .nil .nil (oY rfl rfl) aD.z ?_
 have⟨j7,h⟩:=aH h
 refine aN rfl .nil .nil (zI rfl rfl rfl Iw j7) aD.z<|bL 16 rfl rfl<|qkAdd rfl<|aB (Fq rfl rfl rfl) rfl<|qkAsg rfl<|dtN<|aS ?_
 cases h
 exact lP rfl
end Go.Proofs.YtigggfnchamobaaGreatDoor
end
section
namespace Go.Proofs.YtigggfnchamobaaGreatDoor
open Go.Sx
def qF (p0:Int×Int×Int×Int×Int) (r12:Int) (a17:Int×Int):Option ((Int×Int×Int×Int×Int)×Int):=
 some ((((wI .i64 (p0.1+(1:Int))),(wI .i64 (p0.2.1+r12)),a17.1,(wI .i64 (p0.2.2.1+(1:Int))),a17.2)),(0:Int))
def nS (fuel:Nat) (p0:Int×Int×Int×Int×Int) (p1:Int) (p2:Int) (a8:Bool):Option ((Int×Int×Int×Int×Int)×Int):=
 if a8=true then(some ((((0:Int),(0:Int),(0:Int),(0:Int),(0:Int))),(11:Int)))else(if p0.1=(4096:Int)then(some ((((0:Int),(0:Int),(0:Int),(0:Int),(0:Int))),(3:Int)))else(Option.bind (lJ fuel p1) fun r12=>(if(c_ .u32 (sC .u32 p0.2.2.2.2 p1) p2)=(0:Int)then(qF p0 r12 ((wI .i64 (p0.2.2.1+(1:Int))),p2))else(qF p0 r12 (p0.2.2.1,(c_ .u32 (sC .u32 p0.2.2.2.2 p1) p2))))))
def mU (fuel:Nat) (p0:Int×Int×Int×Int×Int) (p1:Int) (p2:Int):Option ((Int×Int×Int×Int×Int)×Int):=
 Option.bind (mC fuel ((p0.1,p0.2.1,p0.2.2.1,p0.2.2.2.1,p0.2.2.2.2))) fun r3=>(if(!r3)=true then(some ((((0:Int),(0:Int),(0:Int),(0:Int),(0:Int))),(7:Int)))else(if p1=(0:Int)then(nS fuel p0 p1 p2 (true))else(Option.bind (jB fuel ([p1,p2])) fun r22=>(nS fuel p0 p1 p2 ((!r22))))))
theorem Ts:aR Tryz.prog 114:=Tryz.call114
theorem GW (fuel:Nat) {p0:Int×Int×Int×Int×Int} {p1:Int} {p2:Int} (r:(Int×Int×Int×Int×Int)×Int) (h:mU fuel p0 p1 p2=some r):
  aV Tryz.prog 114 #[Value.agg #[vI (p0.1),vI (p0.2.1),vI (p0.2.2.1),vI (p0.2.2.2.1),vU (p0.2.2.2.2)],vU (p1),vU (p2)] [] (fun x:Unit=>Value.tuple #[Value.agg #[vI (r.1.1),vI (r.1.2.1),vI (r.1.2.2.1),vI (r.1.2.2.2.1),vU (r.1.2.2.2.2)],vI (r.2)]) (fun x l=>l) (fun _ l=>l):=by
 refine aV.of Tryz.func114 rfl Tryz.ntmps114 rfl fun c=>?_
 unfold mU at h
 refine sqR<|aG (aM.box (cs:=[vI (p0.1),vI (p0.2.1),vI (p0.2.2.1),vI (p0.2.2.2.1),vU (p0.2.2.2.2)]) rfl rfl) rfl fun b1=>aG (aM.alloc (cs:=[vI (0:Int),vI (0:Int),vI (0:Int),vI (0:Int),vU (0:Int)]) rfl rfl) rfl fun b2=>qkAsg rfl<|dtN<|aL<|sqR<|qkLdA 1 rfl ?_
 have⟨r3,w4,h⟩:=fE h
 refine aG (aM.callQ TA (Ez fuel  r3 w4) rfl .nil) rfl fun x5=>aB (oD rfl) rfl<|dtN ?_
 refine zJ h rfl (fun _ h=>?_) fun _ h=>?_
 ·refine sqR ?_
  refine aB (Fp (r:=Value.agg #[Value.int .i64 (0:Int),Value.int .i64 (0:Int),Value.int .i64 (0:Int),Value.int .i64 (0:Int),Value.int .u32 (0:Int)]) (by intro w;simp[Instr.build,Instr.fill,eN,dU,cY,eO,eP,dV,fS])) rfl ?_
  refine bI 0 (vs:=[vI (0:Int),vI (0:Int),vI (0:Int),vI (0:Int),vU (0:Int)]) rfl rfl rfl rfl rfl rfl<|qkAsg rfl<|dtN<|aS<|aJ ?_
  cases h
  exact jF () rfl rfl (RV.cell 0 rfl rfl rfl rfl) (RV.tmp rfl) .nil aA.nil
 refine iV<|aL<|aL<|midU (fun a8=>nS fuel p0 p1 p2 a8=some r) (fun a8 b9=>[(1,vU (p1)),(2,vU (p2)),(3,vP b1),(6,vP b2),(20,Value.bool (a8))]) (fun a8 b9=>[bO b2 [vI (0:Int),vI (0:Int),vI (0:Int),vI (0:Int),vU (0:Int)] 42,bO b1 [vI (p0.1),vI (p0.2.1),vI (p0.2.2.1),vI (p0.2.2.2.1),vU (p0.2.2.2.2)] 42]) ?_ ?_
 ·refine aO<|qkMove rfl<|qkEql rfl<|qkMove rfl ?_
  refine Cy h rfl (fun _ h=>?_) fun _ h=>?_
  ·refine gdSkip rfl<|gdSkip rfl<|gdSkip rfl<|gdSkip rfl<|gdSkip rfl<|aB (bW rfl rfl) rfl<|dtN ?_
   exact iJ (true) () h SF rfl
  refine gyMove rfl<|gyMove rfl<|qT rfl (cE (e:=jV) ([p1,p2]) [(0,vU (p1)),(1,vU (p2))] rfl rfl rfl rfl (Kd (vU (p1)) (vU (p2)) rfl rfl) rfl rfl rfl) rfl fun u21=>?_
  have⟨r22,w23,h⟩:=fE h
  refine qT rfl (aM.callQ MV (xG fuel u21 r22 w23) rfl (aA.cons (aU (aC.res 0 rfl) kU) .nil)) rfl fun x24=>aT rfl (oD rfl) rfl<|aB (cA rfl rfl) rfl<|dtN ?_
  exact cF ((!r22)) () h SF (aK.ix [1,2] rfl rfl) (aA.refl _ _)
 clear h
 intro a8 b9 h
 unfold nS at h
 refine zJ h rfl (fun _ h=>?_) fun _ h=>?_
 ·refine sqR ?_
  refine aB (Fp (r:=Value.agg #[Value.int .i64 (0:Int),Value.int .i64 (0:Int),Value.int .i64 (0:Int),Value.int .i64 (0:Int),Value.int .u32 (0:Int)]) (by intro w;simp[Instr.build,Instr.fill,eN,dU,cY,eO,eP,dV,fS])) rfl ?_
  refine bI 0 (vs:=[vI (0:Int),vI (0:Int),vI (0:Int),vI (0:Int),vU (0:Int)]) rfl rfl rfl rfl rfl rfl<|qkAsg rfl<|dtN<|aS<|aJ ?_
  cases h
  exact jF () rfl rfl (RV.cell 0 rfl rfl rfl rfl) (RV.tmp rfl) .nil aA.nil
 refine iV<|aL<|sqR<|qkFld rfl<|qkLd 1 rfl<|qkEql rfl<|dtN ?_
 refine eL h rfl (fun h=>?_) fun h=>?_
 ·refine sqR ?_
  refine aB (Fp (r:=Value.agg #[Value.int .i64 (0:Int),Value.int .i64 (0:Int),Value.int .i64 (0:Int),Value.int .i64 (0:Int),Value.int .u32 (0:Int)]) (by intro w;simp[Instr.build,Instr.fill,eN,dU,cY,eO,eP,dV,fS])) rfl ?_
  refine bI 0 (vs:=[vI (0:Int),vI (0:Int),vI (0:Int),vI (0:Int),vU (0:Int)]) rfl rfl rfl rfl rfl rfl<|qkAsg rfl<|dtN<|aS<|aJ ?_
  cases h
  exact jF () rfl rfl (RV.cell 0 rfl rfl rfl rfl) (RV.tmp rfl) .nil aA.nil
 refine iV<|sqR<|qkFld rfl<|qkLd 1 rfl<|qkAdd rfl<|qkFld rfl<|eJ 1 rfl rfl rfl rfl rfl rfl<|dtN<|aL ?_
 refine JR.start [0,1,0,4,15,31,63] 4 mixedOrders (by decide +kernel) ?_
 refine JR.open (by exact rfl) ?_
 refine jkFld rfl<|jkLd 1 rfl<|jkMove rfl ?_
 have⟨r12,w13,h⟩:=fE h
 refine JR.loud rfl rfl rfl (aM.callQ TC (Cr fuel  r12 w13) rfl .nil) rfl (fun x14=>(aF.b rfl (aF.h (aK.ix [1] rfl rfl) .nil (aF.h .nil .nil aF.z)))) fun x14=>bL 4 rfl rfl<|qkAdd rfl<|qkFld rfl<|eJ 1 rfl rfl rfl rfl rfl rfl<|dtN<|sqR<|qkFld rfl<|qkLd 1 rfl<|qkAdd rfl<|qkFld rfl<|eJ 1 rfl rfl rfl rfl rfl rfl<|dtN<|sqR<|qkFld rfl<|qkLd 1 rfl<|qkMove rfl<|aB (AE rfl rfl) rfl<|qkMove rfl<|aB (oY rfl rfl) rfl<|qkFld rfl<|eJ 1 rfl rfl rfl rfl rfl rfl<|dtN<|aL<|midU (fun a17=>qF p0 r12 a17=some r) (fun a17 b18=>[(3,vP b1),(6,vP b2)]) (fun a17 b18=>[bO b2 [vI (0:Int),vI (0:Int),vI (0:Int),vI (0:Int),vU (0:Int)] 42,bO b1 [vI (wI .i64 (p0.1+(1:Int))),vI (wI .i64 (p0.2.1+r12)),vI (a17.1),vI (wI .i64 (p0.2.2.1+(1:Int))),vU (a17.2)] 42]) ?_ ?_
 ·refine sqR<|qkFld rfl<|qkLd 1 rfl<|qkEql rfl<|dtN ?_
  refine eL h rfl (fun h=>?_) fun h=>?_
  ·refine sqR<|qkFld rfl<|qkLd 1 rfl<|qkFld rfl<|eJ 1 rfl rfl rfl rfl rfl rfl<|dtN<|aO<|qkMove rfl<|qkFld rfl<|eJ 1 rfl rfl rfl rfl rfl rfl<|dtN ?_
   exact iJ ((wI .i64 (p0.2.2.1+(1:Int))),p2) () h SF rfl
  refine iV ?_
  exact iJ (p0.2.2.1,(c_ .u32 (sC .u32 p0.2.2.2.2 p1) p2)) () h SF rfl
 clear h
 intro a17 b18 h
 unfold qF at h
 refine sqR<|qkLdA 1 rfl<|bI 0 (vs:=[vI (wI .i64 (p0.1+(1:Int))),vI (wI .i64 (p0.2.1+r12)),vI (a17.1),vI (wI .i64 (p0.2.2.1+(1:Int))),vU (a17.2)]) rfl rfl rfl rfl rfl rfl<|qkAsg rfl<|dtN<|aS ?_
 cases h
 exact jF () rfl rfl (RV.cell 0 rfl rfl rfl rfl) (RV.tmp rfl) .nil aA.nil
end Go.Proofs.YtigggfnchamobaaGreatDoor
end
