/- Models and proofs. Conditions: none. -/
import Derived.Test.YtjlbcgddhnjcjaaGreatDoorZCCo5
import Derived.Test.YtjlbcgddhnjcjaaGreatDoorZCCo6
import Derived.Test.YtjlbcgddhnjcjaaGreatDoorZCCo2
set_option linter.unusedVariables false
set_option linter.unusedSimpArgs false
set_option maxHeartbeats 4000000
set_option maxRecDepth 20000
section
namespace Go.Proofs.YtjlbcgddhnjcjaaGreatDoor
open Go.Sx
section
def tK  (a:fQ):Option (fQ):=
 some (a)
def tM (b:Int×fQ) (a:(Int×fQ)->Option (fQ)) (c:fQ):Option (fQ):=
 a ((wI .i64 (b.1+(1:Int))),c)
def nA (U:Nat) (p0:tD) (p1:cU) (b:Int×fQ) (d:(Int×fQ)->Option (fQ)) (a:Int×fQ) (e:(Int×fQ)->Option (fQ)):Option (fQ):=
 if a.1<(List.length p0.2.1:Int)then(ck (0<=a.1∧a.1<(List.length p0.2.1:Int)) (ck (0<=b.1∧b.1<(List.length a.2:Int)) (ck (0<=b.1∧b.1<(List.length a.2:Int)) (Option.bind (jG U ((((at' p0.2.1 a.1).1),((at' p0.2.1 a.1).2.1),((at' p0.2.1 a.1).2.2.1),((at' p0.2.1 a.1).2.2.2.1),((at' p0.2.1 a.1).2.2.2.2.1),((at' p0.2.1 a.1).2.2.2.2.2))) ((p1.1,p1.2)) b.1) fun c=>(ck (0<=a.1∧a.1<(List.length (at' a.2 b.1):Int)) (ck (0<=a.1∧a.1<(List.length (at' (List.set a.2 (Int.toNat b.1) (List.set (at' a.2 b.1) (Int.toNat a.1) (c.1,((at' (at' a.2 b.1) a.1).2)))) b.1):Int)) (e ((wI .i64 (a.1+(1:Int))),(List.set (List.set a.2 (Int.toNat b.1) (List.set (at' a.2 b.1) (Int.toNat a.1) (c.1,((at' (at' a.2 b.1) a.1).2)))) (Int.toNat b.1) (List.set (at' (List.set a.2 (Int.toNat b.1) (List.set (at' a.2 b.1) (Int.toNat a.1) (c.1,((at' (at' a.2 b.1) a.1).2)))) b.1) (Int.toNat a.1) (((at' (at' (List.set a.2 (Int.toNat b.1) (List.set (at' a.2 b.1) (Int.toNat a.1) (c.1,((at' (at' a.2 b.1) a.1).2)))) b.1) a.1).1),c.2)))))))))))else(tM b d (a.2))
def kV (U:Nat) (p0:tD) (p1:cU) (a:Int×fQ) (b:(Int×fQ)->Option (fQ)):Option (fQ):=
 if a.1<(List.length (List.replicate (Int.toNat (List.length p1.1:Int)) ([]:e_)):Int)then(ck (0<=(List.length p0.2.1:Int)∧(List.length p0.2.1:Int)<=1099511627) (ck (0<=a.1∧a.1<(List.length a.2:Int)) (bJ (nA U p0 p1 a b) U ((0:Int),(List.set a.2 (Int.toNat a.1) (List.replicate (Int.toNat (List.length p0.2.1:Int)) ((0:Int),(0:Int))))))))else(tK  (a.2))
def jB (U:Nat) (p0:tD) (p1:cU):Option (fQ):=
 ck (0<=(List.length p1.1:Int)∧(List.length p1.1:Int)<=1099511627) (bJ (kV U p0 p1) U ((0:Int),(List.replicate (Int.toNat (List.length p1.1:Int)) ([]:e_))))
theorem Ot:aP Tryz.prog 74:=Tryz.call74
theorem zM (U:Nat) {p0:tD} {p1:cU} (v0:Value)  (v1:Value)  (v2:Value)  (v3:Value)  (z4:lW) (r:fQ) (h:jB U p0 p1=some r):
  aU Tryz.prog 74 #[Value.agg #[vS (p0.1),v0,v1],Value.agg #[v2,v3]] [Sl aH v0 p0.2.1,Sl aE v1 p0.2.2,PF (Value.agg #[vS p0.1,v0,v1]),Sl bI v2 p1.1,S2 aY v3 z4 p1.2] (fun x:CG=>x.1) (fun x l=>Ar cE.raw x.1 x.2::fT bS x.2 r::l) (fun _ l=>l):=by
 refine aU.of Tryz.func74 rfl Tryz.ntmps74 rfl fun c=>?_
 refine sqR<|aF (aI.box (cs:=[vS (p0.1),v0,v1]) rfl rfl) rfl fun b1=>aF (aI.box (cs:=[v2,v3]) rfl rfl) rfl fun b2=>qkAsg rfl<|dtN<|sqR<|qkFld rfl<|qkLd 0 rfl<|qkLen (aB.fact 3 rfl) rfl<|ckE h fun j3 h=>eQ (uH bS (Int.toNat (List.length p1.1:Int)))<|aF (pN (e:=cE.raw) (gM) rfl rfl rfl rfl j3 rfl rfl rfl) rfl fun u4=>qkAsg rfl<|dtN<|aG<|midL (B:=eV) (fun a7=>tK  a7=some r) (fun a7 b8=>[(5,u4)]) (fun a7 b8=>[Ar cE.raw u4 b8,fT bS b8 a7]) ?_ ?_
 ·refine sqR<|qkMove rfl<|aA (iW rfl (aV (i:=0) (j:=1) rfl rfl bN) rfl) rfl<|qkMove rfl<|dtN<|aN<|loopL (B:=eV) (kV U p0 p1) (fun a13 b14=>[(2,vP b1),(3,vP b2),(5,u4),(14,vI (List.length (List.replicate (Int.toNat (List.length p1.1:Int)) ([]:e_)):Int)),(15,vI (a13.1))]) (fun a13 b14=>[Ar cE.raw u4 b14,fT bS b14 a13.2,bL b2 [v2,v3] 29,bL b1 [vS (p0.1),v0,v1] 36]) ((0:Int),(List.replicate (Int.toNat (List.length p1.1:Int)) ([]:e_))) (List.replicate (Int.toNat (List.length p1.1:Int)) (gM)) h SF (aR.refl _) ?_
  intro k15 a13 b14 h
  refine sqR<|qkLss rfl<|dtN<|aG ?_
  refine eT h rfl (fun h=>?_) fun h=>?_
  ·refine cJ<|aG<|midL (B:=eV) (fun a19=>tM a13 (bJ (kV U p0 p1) k15) a19=some r) (fun a19 b20=>[(2,vP b1),(3,vP b2),(5,u4),(14,vI (List.length (List.replicate (Int.toNat (List.length p1.1:Int)) ([]:e_)):Int)),(15,vI (a13.1))]) (fun a19 b20=>[Ar cE.raw u4 b20,fT bS b20 a19,bL b2 [v2,v3] 29,bL b1 [vS (p0.1),v0,v1] 36]) ?_ ?_
   ·refine aN<|sqR<|qkMove rfl<|qkAsg rfl<|dtN<|sqR<|qkMove rfl<|qkMove rfl<|qkFld rfl<|qkLd 3 rfl<|qkLen (aB.fact 0 rfl) rfl<|ckE h fun j21 h=>aF (pN (e:=bS) (((0:Int),(0:Int))) rfl rfl rfl rfl j21 rfl rfl rfl) rfl fun u22=>ckE h fun j23 h=>aA (cY rfl rfl (aV (i:=1) (j:=2) rfl rfl bN) rfl rfl j23) rfl<|bM (Know.one ((aO (aB.res 0 rfl) bN))) fun ho24=>eQ (wA (k:=a13.1) 2 0 rfl rfl rfl j23) ?_
    refine nY 0 1 ⟨j23.1,by first|exact j23.2|simpa using j23.2⟩ rfl rfl rfl rfl rfl (by simp) ho24 rfl ?_
    refine dtN<|sqR<|qkFld rfl<|qkLd 3 rfl<|qkLen (aB.fact 0 rfl) rfl<|qkMove rfl<|dtN<|aN<|loopL (nA U p0 p1 a13 (bJ (kV U p0 p1) k15)) (fun a28 b29=>[(2,vP b1),(3,vP b2),(5,u4),(6,vI (a13.1)),(14,vI (List.length (List.replicate (Int.toNat (List.length p1.1:Int)) ([]:e_)):Int)),(15,vI (a13.1)),(26,v0),(27,vI (List.length p0.2.1:Int)),(28,vI (a28.1))]) (fun a28 b29=>[Ar cE.raw u4 (List.set b14 (Int.toNat a13.1) u22),fT bS (List.set b14 (Int.toNat a13.1) u22) a28.2,bL b2 [v2,v3] 29,bL b1 [vS (p0.1),v0,v1] 36]) ((0:Int),(List.set a13.2 (Int.toNat a13.1) (List.replicate (Int.toNat (List.length p0.2.1:Int)) ((0:Int),(0:Int))))) () h SF (aR.refl _) ?_
    intro k30 a28 b29 h
    refine sqR<|qkLss rfl<|dtN<|aG ?_
    refine eT h rfl (fun h=>?_) fun h=>?_
    ·refine cJ<|aG<|aN<|sqR<|qkMove rfl<|ckE h fun j32 h=>aA (a_ rfl rfl (aB.fact 0 rfl) rfl rfl j32) rfl<|aA (iA (cs:=[vS ((at' p0.2.1 a28.1).1),vI ((at' p0.2.1 a28.1).2.1),vI ((at' p0.2.1 a28.1).2.2.1),vI ((at' p0.2.1 a28.1).2.2.2.1),vI ((at' p0.2.1 a28.1).2.2.2.2.1),vI ((at' p0.2.1 a28.1).2.2.2.2.2)]) rfl (aB.fact 0 rfl) sI rfl rfl rfl rfl j32) rfl<|aF (aI.alloc (cs:=vD4) rfl rfl) rfl fun b33=>qkAsg rfl<|bE 0 (vs:=[vS ((at' p0.2.1 a28.1).1),vI ((at' p0.2.1 a28.1).2.1),vI ((at' p0.2.1 a28.1).2.2.1),vI ((at' p0.2.1 a28.1).2.2.2.1),vI ((at' p0.2.1 a28.1).2.2.2.2.1),vI ((at' p0.2.1 a28.1).2.2.2.2.2)]) rfl rfl rfl rfl rfl rfl<|dtN ?_
     refine JR.start [0,0,3,7,0,0,0,96,224,0,0,0,0,7168,15360,31744,31744,31,196095,458239,992,2097151,4194303] 21 mixedOrders (by decide +kernel) ?_
     refine JR.open (by exact rfl) ?_
     refine jkMove rfl<|jkMove rfl<|ckE h fun j34 h=>cB (cQ 2 rfl) fun hl35=>?_
     refine bG rfl (aR.cons 1 rfl .nil) .nil (gH 0 rfl rfl rfl rfl rfl j34.1 (by have q1:=j34.2;have q2:=hl35;(try simp only[List.length_set]at q1);(try simp only[List.length_set]at q2);(try simp only[List.length_set]);omega)) aK.z ?_
     refine cB (cQ 2 rfl) fun hl36=>bG rfl (aR.cons 1 rfl .nil) .nil (kQ 0 rfl rfl hl36 rfl rfl j34) aK.z<|jkMove rfl<|jkMove rfl<|jkMove rfl<|ckE h fun j37 h=>cB (cQ 2 rfl) fun hl38=>?_
     refine bG rfl (aR.cons 1 rfl .nil) .nil (gH 0 rfl rfl rfl rfl rfl j37.1 (by have q1:=j37.2;have q2:=hl38;(try simp only[List.length_set]at q1);(try simp only[List.length_set]at q2);(try simp only[List.length_set]);omega)) aK.z ?_
     refine cB (cQ 2 rfl) fun hl39=>bG rfl (aR.cons 1 rfl .nil) .nil (kQ 0 rfl rfl hl39 rfl rfl j37) aK.z<|jkMove rfl<|jkLdA 0 rfl<|jkLdA 3 rfl<|jkMove rfl<|bnE h fun r40 w41 h=>JR.loud rfl rfl rfl (aI.callQ PC (BL U v2 v3 z4 r40 w41) rfl (lK [3,4] rfl)) rfl (fun x42=>(mW [([1],[]),([1],[]),([1],[]),([1],[])] rfl)) fun x42=>jqN rfl (dD rfl)<|jqN rfl (fC rfl rfl)<|jqN rfl (fC rfl rfl)<|ckE h fun j43 h=>cB (Know.len (aB.row (j:=2) rfl bN j34.1 j34.2)) fun hl44=>jqN rfl (Mn rfl rfl hl44 rfl rfl j43) ?_
     refine jqN rfl (CP (i:=0) rfl rfl rfl rfl rfl (by decide)) ?_
     refine sQ rfl rfl rfl (Ca (us:=[vI (r40.1)]) (o:=0) (k:=a13.1) 2 ((r40.1,((at' (at' a28.2 a13.1) a28.1).2))) ⟨j34.1,by first|exact j34.2|simpa using j34.2⟩ j43 rfl rfl rfl rfl rfl rfl rfl rfl rfl rfl) (fun x45=>(mW [] rfl)) fun x45=>ckE h fun j46 h=>cB (Know.len (aB.row (j:=2) rfl bN j37.1 (by first|exact j37.2|simpa using j37.2))) fun hl47=>?_
     refine jqN rfl (Mn rfl rfl hl47 rfl rfl j46)<|bD 21 rfl rfl ?_
     refine aA (CP (i:=1) rfl rfl rfl rfl rfl (by decide)) rfl ?_
     refine Kz (Ca (us:=[vI (r40.2)]) (o:=1) (k:=a13.1) 2 ((((at' (at' (List.set a28.2 (Int.toNat a13.1) (List.set (at' a28.2 a13.1) (Int.toNat a28.1) (r40.1,((at' (at' a28.2 a13.1) a28.1).2)))) a13.1) a28.1).1),r40.2)) ⟨j37.1,by first|exact j37.2|simpa using j37.2⟩ j46 rfl rfl rfl rfl rfl rfl rfl rfl rfl rfl) fun x48=>dN<|inT<|aM<|qkAdd rfl<|qkMove rfl<|dtN ?_
     exact kZ ((wI .i64 (a28.1+(1:Int))),(List.set (List.set a28.2 (Int.toNat a13.1) (List.set (at' a28.2 a13.1) (Int.toNat a28.1) (r40.1,((at' (at' a28.2 a13.1) a28.1).2)))) (Int.toNat a13.1) (List.set (at' (List.set a28.2 (Int.toNat a13.1) (List.set (at' a28.2 a13.1) (Int.toNat a28.1) (r40.1,((at' (at' a28.2 a13.1) a28.1).2)))) a13.1) (Int.toNat a28.1) (((at' (at' (List.set a28.2 (Int.toNat a13.1) (List.set (at' a28.2 a13.1) (Int.toNat a28.1) (r40.1,((at' (at' a28.2 a13.1) a28.1).2)))) a13.1) a28.1).1),r40.2)))) () h SF (aR.ix [1,2,3,4] rfl rfl) (aD.refl _ _)
    refine oK<|dJ<|dJ<|uF<|inT ?_
    exact gR (a28.2) (List.set b14 (Int.toNat a13.1) u22) h SF rfl
   intro a19 b20 h
   unfold tM at h
   refine aM<|qkAdd rfl<|qkMove rfl<|dtN ?_
   exact yX ((wI .i64 (a13.1+(1:Int))),a19) (b20) h SF rfl
  refine fM ?_
  exact bT (a13.2) (b14) h SF (aR.ix [0,1] rfl rfl) (aD.refl _ _)
 intro a7 b8 h
 unfold tK at h
 refine sqR<|qkMove rfl<|qkAsg rfl<|dtN<|aQ ?_
 cases h
 exact gY (u4,b8) rfl rfl (RV.tmp rfl) (aR.refl _) aD.nil
end
section
def pB (U:Nat) (p0:tD) (p1:cU) (p2:aT):Option (Int):=
 Option.bind (sS U ((p0.1,p0.2.1,p0.2.2)) ((p1.1,p1.2))) fun r3=>(if r3≠(0:Int)then(some (r3))else(Option.bind (jB U ((p0.1,p0.2.1,p0.2.2)) ((p1.1,p1.2))) fun r7=>(Option.bind (tT U r7 p2) fun r10=>(if(!r10)=true then(some (10:Int))else(some (0:Int))))))
theorem Wr:aP Tryz.prog 101:=Tryz.call101
theorem IS (U:Nat) {p0:tD} {p1:cU} {p2:aT} (v0:Value)  (v1:Value)  (v2:Value)  (v3:Value)  (z4:lW)  (v5:Value)  (z6:oC) (r:Int) (h:pB U p0 p1 p2=some r):
  aU Tryz.prog 101 #[Value.agg #[vS (p0.1),v0,v1],Value.agg #[v2,v3],v5] [Sl aH v0 p0.2.1,Sl aE v1 p0.2.2,PF (Value.agg #[vS p0.1,v0,v1]),Sl bI v2 p1.1,S2 aY v3 z4 p1.2,S2 bI v5 z6 p2] (fun x:Unit=>vI (r)) (fun x l=>l) (fun _ l=>l):=by
 refine aU.of Tryz.func101 rfl Tryz.ntmps101 rfl fun c=>?_
 refine sqR<|aF (aI.box (cs:=[vS (p0.1),v0,v1]) rfl rfl) rfl fun b1=>aF (aI.box (cs:=[v2,v3]) rfl rfl) rfl fun b2=>qkAsg rfl<|dtN<|aG<|sqR<|qkLdA 1 rfl<|qkLdA 0 rfl<|bnE h fun r3 w4 h=>aF (aI.callQ Zd (Jn U v0 v1 v2 v3 z4 r3 w4) rfl (lK [0,1,2,3,4] rfl)) rfl fun x5=>qkAsg rfl<|dtN<|sqR<|qkMove rfl<|qkNeq rfl<|dtN ?_
 refine eT h rfl (fun h=>?_) fun h=>?_
 ·refine sqR<|qkMove rfl<|qkAsg rfl<|dtN<|aQ<|aJ ?_
  cases h
  exact wN rfl
 refine cJ<|aG<|sqR<|qkLdA 1 rfl<|qkLdA 0 rfl<|bnE h fun r7 w8 h=>aF (aI.callQ Ot (zM U v0 v1 v2 v3 z4 r7 w8) rfl (lK [0,1,2,3,4] rfl)) rfl fun x9=>qkMove rfl<|bnE h fun r10 w11 h=>aF (aI.callQ Ze (GT U x9.1 (List.zip x9.2 r7) v5 z6 r10 w11) rfl (aD.cons (aV (i:=0) (j:=1) rfl rfl bN) (lK [5] rfl))) rfl fun x12=>aA (qX rfl) rfl<|dtN ?_
 refine AG h rfl (fun _ h=>?_) fun _ h=>?_
 ·refine sqR<|qkAsg rfl<|dtN<|aQ<|aJ ?_
  cases h
  exact wN rfl
 refine cJ<|sqR<|qkAsg rfl<|dtN<|aQ ?_
 cases h
 exact wN rfl
end
section
def vG  (a:aT):Option aT:=
 some (a)
def rE (p0:aT) (a:Int×aT) (b:(Int×aT)->Option aT):Option aT:=
 if a.1<(List.length p0:Int)then(ck (0<=a.1∧a.1<(List.length p0:Int)) (ck ((List.length ([]:aL):Int)+(List.length (at' p0 a.1):Int)<=1099511627) (ck (0<=a.1∧a.1<(List.length a.2:Int)) (b ((wI .i64 (a.1+(1:Int))),(List.set a.2 (Int.toNat a.1) (([]:aL)++(at' p0 a.1))))))))else(vG  (a.2))
def kB (U:Nat) (p0:aT):Option aT:=
 ck (0<=(List.length p0:Int)∧(List.length p0:Int)<=1099511627) (bJ (rE p0) U ((0:Int),(List.replicate (Int.toNat (List.length p0:Int)) ([]:aL))))
theorem EA:aP Tryz.prog 110:=Tryz.call110
theorem tB (U:Nat) {p0:aT} (v0:Value)  (z1:oC) (r:aT) (h:kB U p0=some r):
  aU Tryz.prog 110 #[v0] [S2 bI v0 z1 p0] (fun x:CG=>x.1) (fun x l=>Ar cE.raw x.1 x.2::fT bO x.2 r::l) (fun _ l=>l):=by
 refine aU.of Tryz.func110 rfl Tryz.ntmps110 rfl fun c=>?_
 refine sqR<|qkAsg rfl<|dtN<|sqR<|qkMove rfl<|aA (iW rfl (aB.fact 0 rfl) rfl) rfl<|ckE h fun j1 h=>eQ (uH bO (Int.toNat (List.length p0:Int)))<|aF (pN (e:=cE.raw) (gM) rfl rfl rfl rfl j1 rfl rfl rfl) rfl fun u2=>qkAsg rfl<|dtN<|aG<|midL (B:=eV) (fun a5=>vG  a5=some r) (fun a5 b6=>[(3,u2)]) (fun a5 b6=>[Ar cE.raw u2 b6,fT bO b6 a5]) ?_ ?_
 ·refine sqR<|qkMove rfl<|aA (iW rfl (aB.fact 0 rfl) rfl) rfl<|qkMove rfl<|dtN<|aN<|loopL (B:=eV) (rE p0) (fun a11 b12=>[(3,u2),(9,v0),(10,vI (List.length p0:Int)),(11,vI (a11.1))]) (fun a11 b12=>[Ar cE.raw u2 b12,fT bO b12 a11.2]) ((0:Int),(List.replicate (Int.toNat (List.length p0:Int)) ([]:aL))) (List.replicate (Int.toNat (List.length p0:Int)) (gM)) h SF (aR.refl _) ?_
  intro k13 a11 b12 h
  refine sqR<|qkLss rfl<|dtN<|aG ?_
  refine eT h rfl (fun h=>?_) fun h=>?_
  ·refine cJ<|aG<|aN<|sqR<|qkMove rfl<|ckE h fun j15 h=>aA (cY rfl rfl (aB.fact 0 rfl) rfl rfl j15) rfl<|aA (cW rfl (aB.fact 0 rfl) rfl rfl j15) rfl<|qkAsg rfl<|qkAsg rfl<|dtN<|aM<|qkMove rfl<|qkMove rfl<|qkMove rfl<|eQ (dH bO)<|ckE h fun j17 h=>aF (dW 0 cC rfl rfl rfl (aB.el (aB.fact 0 rfl) j15.1 j15.2) rfl rfl rfl rfl j17 rfl) rfl fun u16=>ckE h fun j18 h=>aA (cY rfl rfl (aV (i:=1) (j:=2) rfl rfl cC) rfl rfl j18) rfl<|bM (Know.one ((aO (aB.res 0 rfl) cC))) fun ho19=>eQ (wA (k:=a11.1) 2 0 rfl rfl rfl j18) ?_
   refine nY 0 1 ⟨j18.1,by first|exact j18.2|simpa using j18.2⟩ rfl rfl rfl rfl rfl (by simp) ho19 rfl ?_
   refine dN<|inT<|aM<|qkAdd rfl<|qkMove rfl<|dtN ?_
   exact yX ((wI .i64 (a11.1+(1:Int))),(List.set a11.2 (Int.toNat a11.1) (([]:aL)++(at' p0 a11.1)))) (List.set b12 (Int.toNat a11.1) u16) h SF rfl
  refine fM ?_
  exact gR (a11.2) (b12) h SF rfl
 intro a5 b6 h
 unfold vG at h
 refine sqR<|qkMove rfl<|qkAsg rfl<|dtN<|aQ ?_
 cases h
 exact gY (u2,b6) rfl rfl (RV.tmp rfl) (aR.refl _) aD.nil
end
end Go.Proofs.YtjlbcgddhnjcjaaGreatDoor
end
section
namespace Go.Proofs.YtjlbcgddhnjcjaaGreatDoor
open Go Go.Sx
section
abbrev vZ:=ByteArray×(List Dg)×(List pW)
structure Bc (g:GR) (vars:List Dg):Prop where
 len:vars.length<=20
 small:∀x,x<vars.length->Cc (at' vars (x:Int))
 kind:∀x,x<vars.length->(at' vars (x:Int)).2.1=1∨(at' vars (x:Int)).2.1=2∨(at' vars (x:Int)).2.1=3
 range:∀x,x<vars.length->(at' vars (x:Int)).2.1=1 -> -100000<=lo g (at' vars (x:Int)) 0∧lo g (at' vars (x:Int)) 0<=hi g (at' vars (x:Int)) 0∧hi g (at' vars (x:Int)) 0 - lo g (at' vars (x:Int)) 0+1<=4096
theorem ZP {g:GR} (a:VG g):yO 1000 g.1=some (gQ g g.1.length):=by
 have d:=a.n24
 have b:=a.len
 have h:=a.n1
 have f:0<=at' g.1 ((0:Nat):Int):=(a.node 0 (by omega)).id.1
 unfold yO
 rw[if_neg (by omega),cP (by omega)]
 have:=dV (step:=sZ g.1) (K:=some (gQ g g.1.length)) (g.1.length - 1) (fun k=>(gQ g (k+1),((k+1:Nat):Int))) (fun k c i=>by
  unfold sZ
  dsimp only
  rw[if_pos (by omega),cP (by omega),dO (by omega)];rfl) (fun c=>by
  unfold sZ xD
  dsimp only
  rw[if_neg (by omega),show g.1.length - 1+1=g.1.length by omega]) 1000 (by omega)
 have e:gQ g (0+1)=at' g.1 (0:Int):=by
  show max (gQ g 0) (at' g.1 ((0:Nat):Int))=_
  simp only[gQ]
  have:at' g.1 ((0:Nat):Int)=at' g.1 (0:Int):=rfl
  omega
 rw[e]at this
 exact this
theorem JG {g:GR} (c:VG g) {x:Dg} (o:Cc x) (n:x.2.1=1∨x.2.1=2∨x.2.1=3) {v:Nat} (p:v<g.2.length):jG 1000 x g (v:Int)=some (lo g x v,hi g x v):=by
 obtain⟨⟨w,y⟩,⟨r,s⟩,t,u⟩:=o
 have l:=c.n24
 have d:=c.len
 have e:=Ix c g.1.length (by omega)
 have p1:0<=x.2.2.2.2.1*(g.1.length:Int):=Int.mul_nonneg r (by omega)
 have p2:x.2.2.2.2.1*(g.1.length:Int)<=100000*24:=Int.mul_le_mul s (by omega) (by omega) (by omega)
 have p3:0<=x.2.2.2.2.2*gQ g g.1.length:=Int.mul_nonneg t e.1
 have p4:x.2.2.2.2.2*gQ g g.1.length<=100000*255:=Int.mul_le_mul u e.2 e.1 (by omega)
 have i:nS 1000 x g (v:Int)=some (x.2.2.1,x.2.2.2.1+x.2.2.2.2.1*(g.2.length:Int)+x.2.2.2.2.2*gQ g g.1.length):=by
  unfold nS
  rw[bA (ZP c),wr (x:=x.2.2.2.2.1*_) (by omega) (by omega),wr (x:=x.2.2.2.2.2*_) (by omega) (by omega),wr (x:=x.2.2.2.1+_) (by omega) (by omega),wr (by omega) (by omega),d]
 have j:nT 1000 x g (v:Int)=some (-1,((row g v).length:Int) - 1):=by
  have k:=(c.node v p).deg
  unfold nT
  rw[cP (by omega)]
  show some ((-1:Int),wI .i64 (((row g v).length:Int) - 1))=_
  rw[wr (by omega) (by omega)]
 have q:∀(f:Nat) (a:Int),bJ (eC 1000 x g (v:Int)) (f+1) a=eC 1000 x g (v:Int) a (bJ (eC 1000 x g (v:Int)) f):=fun f a=>rfl
 have b:∀(f:Nat) (a:Int),a=0∨a=1∨a=2->bJ (eC 1000 x g (v:Int)) (f+1) a=if a=0 then(if 1=x.2.1 then nS 1000 x g (v:Int)else bJ (eC 1000 x g (v:Int)) f 1)else if a=1 then(if 2=x.2.1 then qO 1000 x g (v:Int)else bJ (eC 1000 x g (v:Int)) f 2)else(if 3=x.2.1 then nT 1000 x g (v:Int)else bJ (eC 1000 x g (v:Int)) f 3):=by
  intro f a m
  rw[q]
  generalize bJ (eC 1000 x g (v:Int)) f=G
  unfold eC lQ
  rcases m with rfl|rfl|rfl
  ·rw[if_pos (by decide),cP (by decide),if_pos rfl,if_pos rfl]
   split
   ·rw[i];rfl
   ·rfl
  ·rw[if_pos (by decide),cP (by decide),if_neg (show¬(1:Int)=0 by decide),if_pos rfl,if_neg (show¬(1:Int)=0 by decide),if_pos rfl]
   split
   ·rfl
   ·rfl
  ·rw[if_pos (by decide),cP (by decide),if_neg (show¬(2:Int)=0 by decide),if_neg (show¬(2:Int)=1 by decide),if_neg (show¬(2:Int)=0 by decide),if_neg (show¬(2:Int)=1 by decide)]
   split
   ·rw[j];rfl
   ·rfl
 unfold jG lo hi
 rcases n with h|h|h
 ·rw[b 999 0 (.inl rfl),if_pos rfl,if_pos h.symm,i,h,if_neg (by decide),if_neg (by decide),if_neg (by decide),if_neg (by decide)]
 ·rw[b 999 0 (.inl rfl),if_pos rfl,if_neg (by omega),b 998 1 (.inr (.inl rfl)),if_neg (by decide),if_pos rfl,if_pos h.symm,h,if_pos rfl,if_pos rfl];rfl
 ·rw[b 999 0 (.inl rfl),if_pos rfl,if_neg (by omega),b 998 1 (.inr (.inl rfl)),if_neg (by decide),if_pos rfl,if_neg (by omega),b 997 2 (.inr (.inr rfl)),if_neg (by decide),if_neg (by decide),if_pos h.symm,j,h,if_neg (by decide),if_pos rfl,if_neg (by decide),if_pos rfl]

def Dt (g:GR) (vars:List Dg) (v x:Nat):eK:=(lo g (at' vars (x:Int)) v,hi g (at' vars (x:Int)) v)
def Dj (g:GR) (vars:List Dg) (v:Nat):e_:=(List.range vars.length).map (Dt g vars v)
def zQ (g:GR) (vars:List Dg):fQ:=(List.range g.2.length).map (Dj g vars)
theorem zE {a:Type} [Inhabited a] (f:Nat->a) {n k:Nat} (h:k<n):at' ((List.range n).map f) (k:Int)=f k:=by
 rw[kF (by simpa using h)];simp
theorem sT {a:Type} (f:Nat->a) (z:a) (n k:Nat) (h:k<n):((List.range k).map f++List.replicate (n - k) z).set k (f k)=(List.range (k+1)).map f++List.replicate (n - (k+1)) z:=by
 rw[show n - k=(n - (k+1))+1 by omega,List.replicate_succ,List.set_append_right _ _ (by simp),List.range_succ]
 simp
theorem IZ {g:GR} (l:VG g) {p:vZ} (m:Bc g p.2.1):jB 1000 p g=some (zQ g p.2.1):=by
 have r:=l.n24
 have c:=l.len
 have v:=m.len
 let vars:=p.2.1
 let Q:Nat->fQ:=fun k=>(List.range k).map (Dj g vars)++List.replicate (g.2.length - k) []
 have b:∀k,k<=g.2.length->(Q k).length=g.2.length:=fun k e=>by simp[Q];omega
 let R:Nat->Nat->e_:=fun k j=>(List.range j).map (Dt g vars k)++List.replicate (vars.length - j) (0,0)
 have i:∀k j,j<=vars.length->(R k j).length=vars.length:=fun k j a=>by simp[R];omega
 unfold jB
 rw[cP (by omega)]
 rw[show List.replicate (Int.toNat (g.1.length:Int)) ([]:e_)=Q 0 by simp[Q,c]]
 refine dV (step:=kV 1000 p g) (K:=some (zQ g vars)) g.2.length (fun k=>((k:Int),Q k)) (fun k d e=> ?_) (fun d=> ?_) 1000 (by omega)
 ·unfold kV
  dsimp only
  rw[if_pos (by simp;omega),cP (by omega),cP (by rw[b k (by omega)];omega)]
  refine Eq.trans (?_:_=bJ (nA 1000 p g ((k:Int),Q k) d) 1000 ((0:Int),(Q k).set k (R k 0))) ?_
  ·rw[Int.toNat_natCast,Int.toNat_natCast];simp[R,vars]
  refine dV (step:=nA 1000 p g ((k:Int),Q k) d) (K:=d (((k+1:Nat):Int),Q (k+1))) vars.length (fun j=>((j:Int),(Q k).set k (R k j))) (fun j f a=> ?_) (fun f=> ?_) 1000 (by show p.2.1.length<1000;omega)
  ·have t:j<p.2.1.length:=a
   have s:=JG l (m.small j a) (m.kind j a) e
   have u:k<(Q k).length:=by rw[b k (by omega)];exact e
   have n:∀X:e_,at' ((Q k).set k X) (k:Int)=X:=fun X=>by rw[sL _ _ _ _ u,if_pos rfl]
   have h:j<(R k j).length:=by rw[i k j (by omega)];exact a
   unfold nA
   dsimp only
   rw[if_pos (by omega),cP (by omega),cP (by simp only[List.length_set];omega),cP (by simp only[List.length_set];omega),bA (show jG 1000 _ g (k:Int)=_ from s),Int.toNat_natCast,Int.toNat_natCast]
   simp only[n,List.set_set]
   rw[cP (by omega),cP (by simp only[List.length_set];omega),dO (by omega)]
   have:(R k j).set j (lo g (at' p.2.1 (j:Int)) k,hi g (at' p.2.1 (j:Int)) k)=R k (j+1):=sT (Dt g vars k) (0,0) vars.length j a
   rw[sL _ _ _ _ h,if_pos rfl]
   dsimp only
   rw[this]
  ·unfold nA tM
   dsimp only
   rw[if_neg (show¬((vars.length:Nat):Int)<(p.2.1.length:Int)from Int.lt_irrefl _),dO (by omega)]
   have o:R k vars.length=Dj g vars k:=by simp[R,Dj]
   have q:(Q k).set k (Dj g vars k)=Q (k+1):=sT (Dj g vars) [] g.2.length k e
   rw[o,q]
 ·unfold kV tK
  dsimp only
  rw[if_neg (by simp;omega)]
  simp[Q,zQ]
theorem Xi {g:GR} (c:VG g) {p:vZ} (b:Bc g p.2.1):sS 1000 p g=some 0:=by
 have i:=c.n1
 have h:=b.len
 unfold sS
 rw[bA (show Av 1000 _=some true from rfl),if_neg (by decide),bA (show eW 1000 g=some true from(Gd g).1 c),if_neg (by decide)]
 refine dV (step:=l_ 1000 p g) (K:=some 0) p.2.1.length (fun k=>(k:Int)) (fun k e d=> ?_) (fun e=> ?_) 1000 (by omega)
 ·unfold l_ oT uW oT
  rw[if_pos (by omega),cP (by omega),dO (by omega)]
  by_cases a:(at' p.2.1 (k:Int)).2.1=1
  ·obtain⟨j,l,m⟩:=b.range k d a
   have f:=JG c (b.small k d) (b.kind k d) (v:=0) (by omega)
   rw[if_neg (by simpa using a),bA (show jG 1000 _ g (0:Int)=_ from f)]
   dsimp only
   rw[if_neg (by omega),wr (x:=hi g (at' p.2.1 (k:Int)) 0 - lo g (at' p.2.1 (k:Int)) 0) (by omega) (by omega),wr (by omega) (by omega),if_neg (by rw[decide_eq_true_eq];omega)]
  ·rw[if_pos a]
 ·unfold l_ uV
  rw[if_neg (by omega)]

theorem Vh {g:GR} {vars:List Dg} (f:vars.length<=20) {v:Nat} {l:aL} (b:l.length=vars.length) (c:∀x,x<vars.length->lo g (at' vars (x:Int)) v<=at' l (x:Int)∧at' l (x:Int)<=hi g (at' vars (x:Int)) v):vD 1000 (Dj g vars v) l=some true:=by
 have d:(Dj g vars v).length=vars.length:=by simp[Dj]
 unfold vD
 rw[if_neg (by rw[d,b];simp)]
 refine dV (step:=nF (Dj g vars v) l) (K:=some true) l.length (fun k=>(k:Int)) (fun k a e=> ?_) (fun a=> ?_) 1000 (by omega)
 ·have hc:at' (Dj g vars v) (k:Int)=Dt g vars v k:=zE _ (by omega)
  have:=c k (by omega)
  unfold nF tV
  rw[if_pos (by omega),cP (by omega),cP (by omega),hc]
  rw[if_neg (show¬at' l (k:Int)<(Dt g vars v k).1 from Int.not_lt.2 this.1),cP (by omega),if_neg (by rw[decide_eq_true_eq];exact Int.not_lt.2 this.2),dO (by omega)]
 ·unfold nF tU
  rw[if_neg (by omega)]
theorem MC {g:GR} (hV:VG g) {p:vZ} (hp:Bc g p.2.1) {c:aT} (hc:G_ g c p.2.1):pB 1000 p g c=some 0:=by
 have h24:=hV.n24
 have ht:(zQ g p.2.1).length=g.2.length:=by simp[zQ]
 have hcl:=hc.len
 unfold pB
 rw[bA (show sS 1000 _ _=some 0 from Xi hV hp),if_neg (by decide),bA (show jB 1000 _ _=_ from IZ hV hp)]
 have:tT 1000 (zQ g p.2.1) c=some true:=by
  unfold tT
  rw[if_neg (by rw[ht,hcl];simp)]
  refine dV (step:=pF 1000 (zQ g p.2.1) c) (K:=some true) g.2.length (fun k=>(k:Int)) (fun k ag hk=> ?_) (fun ag=> ?_) 1000 (by omega)
  ·have hr:at' (zQ g p.2.1) (k:Int)=Dj g p.2.1 k:=zE _ hk
   unfold pF
   rw[if_pos (by omega),cP (by omega),cP (by omega),hr,bA (Vh hp.len (hc.row k hk) (hc.ok k hk)),if_neg (by decide),dO (by omega)]
  ·unfold pF rY
   rw[if_neg (by omega)]
 rw[bA this,if_neg (by decide)]
theorem KY (c:aT) (h:c.length<=900) (e:∀v,v<c.length->(at' c (v:Int)).length<=1000):kB 1000 c=some c:=by
 unfold kB
 rw[cP (by omega)]
 let Q:Nat->aT:=fun k=>(List.range k).map (fun v:Nat=>at' c (v:Int))++List.replicate (c.length - k) []
 rw[show List.replicate (Int.toNat (c.length:Int)) ([]:aL)=Q 0 by simp[Q]]
 refine dV (step:=rE c) (K:=some c) c.length (fun k=>((k:Int),Q k)) (fun k b a=> ?_) (fun b=> ?_) 1000 (by omega)
 ·have g:(Q k).length=c.length:=by simp[Q];omega
  have:=e k a
  unfold rE
  dsimp only
  rw[if_pos (by omega),cP (by omega),cP (by simp;omega),cP (by omega),dO (by omega),Int.toNat_natCast,List.nil_append]
  have:(Q k).set k (at' c (k:Int))=Q (k+1):=sT (fun v:Nat=>at' c (v:Int)) [] c.length k a
  rw[this]
 ·unfold rE vG
  dsimp only
  rw[if_neg (by omega)]
  congr 1
  refine List.ext_getElem (by simp[Q]) fun i f d=> ?_
  simp[Q,kF d]
end
section
def sat (x:Int):Int:=max (-1073741824) (min x 1073741824)
def unD (o x:Int):Int:=if o=18 then wI .i64 (0 - x)else Fz (decide (x=0))
def XI (a b:Int):Int:=if b=0 then 0 else if Int.tmod a b≠0∧((decide (a<0)) != (decide (b<0)))=true then wI .i64 (wI .i64 (Int.tdiv a b) - 1)else wI .i64 (Int.tdiv a b)
def Zo (o x y:Int):Bool:=if o=35 then decide (x=y)else if o=36 then decide (x≠y)else if o=37 then decide (x<y)else if o=38 then decide (x<=y)else if o=39 then decide (y<x)else decide (y<=x)
def biD (o x y:Int):Int:=
 if o=30 then sat (wI .i64 (x*y))else if o=31 then sat (XI x y)else if o=32 then(if y=0 then 0 else sat (wI .i64 (x - wI .i64 (y*XI x y))))else if o=33 then sat (wI .i64 (x+y))else if o=34 then sat (wI .i64 (x - y))
 else if o=41 then Fz (decide (x≠0)&&decide (y≠0))else if o=42 then Fz (decide (x≠0)||decide (y≠0))else Fz (Zo o x y)
theorem Vq (f:Nat) (o x:Int):yN f o x=some (unD o x):=by
 unfold yN unD
 split
 ·rfl
 ·rw[bA (tC f _)]
theorem UV (f:Nat) (a b:Int):qB f a b=some (XI a b):=by
 unfold qB XI
 by_cases c:b=0
 ·rw[if_pos c,if_pos c]
 ·rw[if_neg c,if_neg c,cP c,cP c]
  by_cases d:Int.tmod a b=0
  ·rw[if_neg (by simpa using d),if_neg (by simp[d])];rfl
  ·rw[if_pos d]
   unfold rU oW
   by_cases e:((decide (a<0)) != (decide (b<0)))=true
   ·rw[if_pos e,if_pos ⟨d,e⟩]
   ·rw[if_neg e,if_neg (fun q=>e q.2)]
theorem Zp (f:Nat) (o x y:Int):tS f o x y=some (Zo o x y):=by
 unfold tS Zo
 repeat' split
 all_goals rfl
theorem Rf (f:Nat) (o x y:Int):wY f o x y=some (biD o x y):=by
 unfold wY biD
 by_cases h:o=30
 ·rw[if_pos h,if_pos h];rfl
 rw[if_neg h,if_neg h]
 by_cases h:o=31
 ·rw[if_pos h,if_pos h,bA (UV f x y)];rfl
 rw[if_neg h,if_neg h]
 by_cases h:o=32
 ·rw[if_pos h,if_pos h]
  by_cases b:y=0
  ·rw[if_pos b,if_pos b]
  ·rw[if_neg b,if_neg b,bA (UV f x y)];rfl
 rw[if_neg h,if_neg h]
 by_cases h:o=33
 ·rw[if_pos h,if_pos h];rfl
 rw[if_neg h,if_neg h]
 by_cases h:o=34
 ·rw[if_pos h,if_pos h];rfl
 rw[if_neg h,if_neg h]
 by_cases h:o=41
 ·rw[if_pos h,if_pos h]
  by_cases a:x=0
  ·rw[if_neg (by simpa using a),bA (tC f _)];simp[a,oU]
  ·rw[if_pos a,bA (tC f _)];simp[a,oU]
 rw[if_neg h,if_neg h]
 by_cases h:o=42
 ·rw[if_pos h,if_pos h]
  by_cases a:x=0
  ·rw[if_neg (by simpa using a),bA (tC f _)];simp[a,oV]
  ·rw[if_pos a,bA (tC f _)];simp[a,oV]
 rw[if_neg h,if_neg h,bA (Zp f o x y),bA (tC f _)]
def E.den (L:Int->Int->Int->Int) (deg:Nat):E->Int->Int
 |lf o a,p=>L o a p
 |un o x,p=>unD o (x.den L deg p)
 |ag o x,_=>PX o ((List.range deg).map fun q=>x.den L deg ((q:Nat):Int))
 |bi o x y,p=>biD o (x.den L deg p) (y.den L deg p)
 |ite x y z,p=>if x.den L deg p≠0 then y.den L deg p else z.den L deg p
def E.wf (c:Nat):Bool->E->Bool
 |b,lf o a=>decide (1<=o)&&decide (o<=17)&&(b||decide (o<=10))&&((decide (o≠5)&&decide (o≠12))||(decide (0<=a)&&decide (a<(c:Int))))
 |b,un o x=>decide (18<=o)&&decide (o<=19)&&x.wf c b
 |_,ag o x=>(decide (o=20)||decide (o=21)||decide (o=22)||decide (o=23)||decide (o=24)||decide (o=26)||decide (o=27))&&x.wf c true
 |b,bi o x y=>decide (30<=o)&&decide (o<=42)&&x.wf c b&&y.wf c b
 |b,ite x y z=>x.wf c b&&y.wf c b&&z.wf c b
theorem VV {i:Nat}:∀{e:E} {b:Bool},e.wf i b=true->e.arOk=true:=by
 intro e
 induction e with
 |lf o a=>intro b h;simp[E.wf,E.arOk]at h ⊢;omega
 |un o x f=>intro b h;simp[E.wf,E.arOk]at h ⊢;exact⟨h.1,f h.2⟩
 |ag o x f=>intro b h;simp[E.wf,E.arOk]at h ⊢;exact⟨by omega,f h.2⟩
 |bi o x y c d=>intro b h;simp[E.wf,E.arOk]at h ⊢;exact⟨⟨h.1.1,c h.1.2⟩,d h.2⟩
 |ite x y z c d g=>intro b h;simp[E.wf,E.arOk]at h ⊢;exact⟨⟨c h.1.1,d h.1.2⟩,g h.2⟩
def UD (W:WLK) (p:Int):Int:=(at' (at' W.1.2.1.2 W.2.2.1) p).1
def Ym (W:WLK) (o a p:Int):Int:=
 if o=1 then a else if o=2 then 1 else if o=3 then 0 else if o=4 then -1 else if o=5 then at' (at' W.2.1 W.2.2.1) a else if o=12 then at' (at' W.2.1 (UD W p)) a
 else if o=6 then(W.1.2.1.1.length:Int)else if o=7 then W.1.2.2.1 else if o=8 then at' W.1.2.1.1 W.2.2.1 else if o=9 then((at' W.1.2.1.2 W.2.2.1).length:Int)else if o=10 then Fz (decide (W.2.2.1=0))else if o=11 then p
 else if o=13 then at' W.1.2.1.1 (UD W p)else if o=14 then((at' W.1.2.1.2 (UD W p)).length:Int)else if o=15 then Fz (decide (UD W p=0))else if o=16 then(at' (at' W.1.2.1.2 W.2.2.1) p).2 else at' (at' W.1.2.2.2 W.2.2.1) p
structure WOk (W:WLK) (nv n v:Nat):Prop where
 node:W.2.2.1=(v:Int)
 lt:v<n
 ports:W.1.2.1.2.length=n
 ids:W.1.2.1.1.length=n
 c:W.2.1.length=n
 row:∀u:Nat,u<n->(at' W.2.1 (u:Int)).length=nv
 to:∀u:Nat,u<n->∀i:Nat,i<(at' W.1.2.1.2 (u:Int)).length->0<=(at' (at' W.1.2.1.2 (u:Int)) (i:Int)).1∧(at' (at' W.1.2.1.2 (u:Int)) (i:Int)).1<(n:Int)
 bl:W.1.2.2.2.length=n
 br:∀u:Nat,u<n->(at' W.1.2.2.2 (u:Int)).length=(at' W.1.2.1.2 (u:Int)).length
def SP (b:Bool) (deg:Nat) (p:Int):Prop:=b=true->∃q:Nat,p=(q:Int)∧q<deg
theorem Xz {W:WLK} {k n v:Nat} (h:WOk W k n v) (f:Nat) {b:Bool} {o a p:Int} (s:(E.lf o a).wf k b=true) (r:SP b (at' W.1.2.1.2 (v:Int)).length p):lA f W (o,a) p=some (Ym W o a p):=by
 obtain⟨y,c,A,B,C,l,m,F,w⟩:=h
 simp only[E.wf,Bool.and_eq_true,Bool.or_eq_true,decide_eq_true_eq]at s
 obtain⟨⟨⟨G,H⟩,d⟩,I⟩:=s
 have z:(at' W.2.1 (v:Int)).length=k:=l v c
 unfold lA Ym UD
 dsimp only
 rw[y]
 by_cases e:o=1
 ·simp only[if_pos e]
 simp only[if_neg e]
 by_cases e:o=2
 ·simp only[if_pos e]
 simp only[if_neg e]
 by_cases e:o=3
 ·simp only[if_pos e]
 simp only[if_neg e]
 by_cases e:o=4
 ·simp only[if_pos e]
 simp only[if_neg e]
 by_cases e:o=5
 ·simp only[if_pos e]
  rw[cP (by omega),cP (by omega)]
 simp only[if_neg e]
 by_cases e:o=12
 ·have i:b=true:=by
   rcases d with d|d
   ·exact d
   ·omega
  obtain⟨q,rfl,j⟩:=r i
  have g:=m v c q j
  obtain⟨u,x⟩:∃u:Nat,(at' (at' W.1.2.1.2 (v:Int)) (q:Int)).1=(u:Int):=⟨_,(Int.toNat_of_nonneg g.1).symm⟩
  simp only[if_pos e]
  rw[x]at g ⊢
  have D:=l u (by omega)
  rw[cP (by omega),cP (by omega),cP (by omega),cP (by omega)]
 simp only[if_neg e]
 unfold rB
 dsimp only
 by_cases e:o=6
 ·simp only[if_pos e];rfl
 simp only[if_neg e]
 by_cases e:o=7
 ·simp only[if_pos e];rfl
 simp only[if_neg e]
 by_cases e:o=8
 ·simp only[if_pos e]
  rw[cP (by omega)];rfl
 simp only[if_neg e]
 by_cases e:o=9
 ·simp only[if_pos e]
  rw[cP (by omega)];rfl
 simp only[if_neg e]
 by_cases e:o=10
 ·simp only[if_pos e]
  rw[bA (tC f _)];rfl
 simp only[if_neg e]
 by_cases e:o=11
 ·simp only[if_pos e];rfl
 simp only[if_neg e]
 have i:b=true:=by
  rcases d with d|d
  ·exact d
  ·omega
 obtain⟨q,rfl,j⟩:=r i
 have g:=m v c q j
 rw[cP (by omega),cP (by omega)]
 by_cases e:o=13
 ·simp only[if_pos e]
  rw[cP (by omega)];rfl
 simp only[if_neg e]
 by_cases e:o=14
 ·simp only[if_pos e]
  rw[cP (by omega)];rfl
 simp only[if_neg e]
 by_cases e:o=15
 ·simp only[if_pos e]
  rw[bA (tC f _)];rfl
 simp only[if_neg e]
 by_cases e:o=16
 ·simp only[if_pos e];rfl
 simp only[if_neg e]
 have t:=w v c
 rw[cP (by omega),cP (by omega)];rfl
theorem VF {W:WLK} {Z n v:Nat} (h:WOk W Z n v) {deg:Nat} (i:(at' W.1.2.1.2 (v:Int)).length=deg) (I:deg<=24) (Q:W.2.2.2.length<=800):
  ∀(e:E) (b:Bool) (fuel k:Nat) (p:Int) (pre c:e_),W.2.2.2=pre++(e.ts++c)->pre.length=k->e.wf Z b=true->SP b deg p->e.depth+850<=fuel->
   bP fuel W (k:Int) p=some (e.den (Ym W) deg p,(((k+e.ts.length:Nat)):Int)):=by
 obtain⟨O,aa,h1,h2,h3,h4,h5,_,_⟩:=id h
 have d:∀{t:eK} {l pre c:e_} {k:Nat},W.2.2.2=pre++((t::l)++c)->pre.length=k->at' W.2.2.2 (k:Int)=t∧(k:Int)<(W.2.2.2.length:Int):=by
  intro t l pre c k g j
  refine⟨KN (rest:=l++c) (by simpa using g) j,?_⟩
  rw[g];simp;omega
 intro e
 induction e with
 |lf o a=>
  intro b fuel k p pre c g j r s w
  obtain⟨fuel,rfl⟩:∃f,fuel=f+1:=⟨fuel - 1,by omega⟩
  obtain⟨u,m⟩:=d (l:=[]) g j
  show cR (bP fuel) fuel W (k:Int) p=_
  unfold cR
  rw[cP ⟨by omega,m⟩,u]
  dsimp only
  have T:=r
  simp only[E.wf,Bool.and_eq_true,Bool.or_eq_true,decide_eq_true_eq]at T
  have hl:=Xz h fuel r (i▸s)
  rw[if_pos (by omega),bA (show lA fuel _ (o,a) p=some (Ym W o a p)from hl),dO (by omega)]
  rfl
 |un o x X=>
  intro b fuel k p pre c g j r s w
  obtain⟨fuel,rfl⟩:∃f,fuel=f+1:=⟨fuel - 1,by omega⟩
  obtain⟨u,m⟩:=d (l:=x.ts) g j
  show cR (bP fuel) fuel W (k:Int) p=_
  unfold cR
  rw[cP ⟨by omega,m⟩,u]
  dsimp only
  simp only[E.wf,Bool.and_eq_true,decide_eq_true_eq]at r
  simp only[E.depth]at w
  have B:=X b fuel (k+1) p (pre++[(o,0)]) c (by rw[g];simp[E.ts]) (by simp[j]) r.2 s (by omega)
  rw[if_neg (by omega),if_pos (by omega),dO (by omega),bA (show bP fuel _ _ p=_ from B),bA (Vq fuel _ _)]
  simp only[E.den,E.ts,List.length_cons]
  rw[show k+1+x.ts.length=k+(x.ts.length+1) by omega]
 |bi o x y C F=>
  intro b fuel k p pre c g j r s w
  obtain⟨fuel,rfl⟩:∃f,fuel=f+1:=⟨fuel - 1,by omega⟩
  obtain⟨u,m⟩:=d (l:=x.ts++y.ts) g j
  show cR (bP fuel) fuel W (k:Int) p=_
  unfold cR
  rw[cP ⟨by omega,m⟩,u]
  dsimp only
  simp only[E.wf,Bool.and_eq_true,decide_eq_true_eq]at r
  simp only[E.depth]at w
  have B:=C b fuel (k+1) p (pre++[(o,0)]) (y.ts++c) (by rw[g];simp[E.ts]) (by simp[j]) r.1.2 s (by omega)
  have U:=F b fuel (k+1+x.ts.length) p (pre++(o,0)::x.ts) c (by rw[g];simp[E.ts]) (by simp[j];omega) r.2 s (by omega)
  rw[if_neg (by omega),if_neg (by omega),if_neg (by omega),if_pos (by omega),dO (by omega),bA (show bP fuel _ _ p=_ from B),bA (show bP fuel _ _ p=_ from U),bA (Rf fuel _ _ _)]
  simp only[E.den,E.ts,List.length_cons,List.length_append]
  rw[show k+1+x.ts.length+y.ts.length=k+(x.ts.length+y.ts.length+1) by omega]
 |ite x y z C F Y=>
  intro b fuel k p pre c g j r s w
  obtain⟨fuel,rfl⟩:∃f,fuel=f+1:=⟨fuel - 1,by omega⟩
  obtain⟨u,m⟩:=d (l:=x.ts++(y.ts++z.ts)) g j
  show cR (bP fuel) fuel W (k:Int) p=_
  unfold cR
  rw[cP ⟨by omega,m⟩,u]
  dsimp only
  simp only[E.wf,Bool.and_eq_true]at r
  simp only[E.depth]at w
  have B:=C b fuel (k+1) p (pre++[(43,0)]) (y.ts++z.ts++c) (by rw[g];simp[E.ts]) (by simp[j]) r.1.1 s (by omega)
  have U:=F b fuel (k+1+x.ts.length) p (pre++(43,0)::x.ts) (z.ts++c) (by rw[g];simp[E.ts]) (by simp[j];omega) r.1.2 s (by omega)
  have hz:=Y b fuel (k+1+x.ts.length+y.ts.length) p (pre++(43,0)::(x.ts++y.ts)) c (by rw[g];simp[E.ts]) (by simp[j];omega) r.2 s (by omega)
  rw[if_neg (by decide),if_neg (by decide),if_neg (by decide),if_neg (by decide),dO (by omega),bA (show bP fuel _ _ p=_ from B),bA (show bP fuel _ _ p=_ from U),bA (show bP fuel _ _ p=_ from hz)]
  simp only[E.den,E.ts,List.length_cons,List.length_append]
  rw[show k+1+x.ts.length+y.ts.length+z.ts.length=k+(x.ts.length+(y.ts.length+z.ts.length)+1) by omega]
  split<;>rfl
 | ag o x X =>
  intro b fuel k p pre c g j r s w
  obtain⟨fuel,rfl⟩:∃f,fuel=f+1:=⟨fuel - 1,by omega⟩
  obtain⟨u,m⟩:=d (l:=x.ts) g j
  have R:=VV r
  have P:=r
  simp only[E.wf,Bool.and_eq_true,Bool.or_eq_true,decide_eq_true_eq]at P
  simp only[E.depth]at w
  have M:(E.ag o x).ts.length=x.ts.length+1:=rfl
  have J:=congrArg List.length g
  simp only[List.length_append]at J
  show cR (bP fuel) fuel W (k:Int) p=_
  unfold cR
  rw[cP ⟨by omega,m⟩,u]
  dsimp only
  rw[if_neg (by omega),if_neg (by omega),if_pos (by omega),cP (by omega)]
  let D:Nat->Int:=fun q=>x.den (Ym W) deg ((q:Nat):Int)
  let V:Nat->aL:=fun q=>(List.range q).map D++List.replicate (24 - q) 0
  have H:∀q,q<=24->(V q).length=24:=fun q S=>by simp[V];omega
  have L:∀q,q<24->(V q).set q (D q)=V (q+1):=fun q S=>by
   show((List.range q).map D++List.replicate (24 - q) 0).set q (D q)=(List.range (q+1)).map D++List.replicate (24 - (q+1)) 0
   rw[show 24 - q=(24 - (q+1))+1 by omega,List.replicate_succ,List.set_append_right _ _ (by simp),List.range_succ]
   simp
  let N:Nat->Int:=fun q=>if q=0 then 0 else(((k+1+x.ts.length:Nat)):Int)
  refine Eq.trans (dV (step:=jN fuel W (k:Int) (bP fuel)) (K:=some ((E.ag o x).den (Ym W) deg p,(((k+(E.ag o x).ts.length:Nat)):Int))) deg (fun q=>(N q,(q:Int),V q)) (fun q ag S=> ?_) (fun ag=> ?_) fuel (by omega)) rfl
  ·unfold jN
   dsimp only
   have B:=X true fuel (k+1) ((q:Nat):Int) (pre++[(o,0)]) c (by rw[g];simp[E.ts]) (by simp[j]) P.2 (fun _=>⟨q,rfl,S⟩) (by omega)
   rw[if_pos (by rw[O,i];omega),dO (by omega),bA (show bP fuel _ _ _=_ from B),cP ⟨by omega,H q (by omega)⟩,dO (by omega),Int.toNat_natCast]
   show ag (_,_,(V q).set q (D q))=_
   rw[L q (by omega)]
   simp only[N]
   rw[if_neg (by omega)]
  ·unfold jN
   dsimp only
   rw[if_neg (by rw[O,i];omega)]
   have A:List.take deg (V deg)=(List.range deg).map D:=by
    show List.take deg ((List.range deg).map D++_)=_
    exact List.take_left' (by simp)
   have G:∀y:Int,y=(((k+1+x.ts.length:Nat)):Int)->jM fuel W (k:Int) (N deg,V deg) y=some ((E.ag o x).den (Ym W) deg p,(((k+(E.ag o x).ts.length:Nat)):Int)):=by
    rintro y rfl
    unfold jM
    dsimp only
    rw[O,i,cP ⟨by omega,by omega,by rw[H deg I];omega⟩,u,Int.toNat_natCast,A,bA (Xj fuel o _ (by omega) (by simp;omega) (by omega))]
    unfold mN
    rw[M,show k+1+x.ts.length=k+(x.ts.length+1) by omega]
    rfl
   unfold qL
   dsimp only
   by_cases h0:deg=0
   ·rw[if_pos (by rw[O,i];omega),bA (Zu fuel (E.ag o x) R g j Q (by omega))]
    exact G _ (by rw[M];omega)
   ·rw[if_neg (by rw[O,i];omega)]
    exact G _ (by simp only[N];rw[if_neg h0])
end
end Go.Proofs.YtjlbcgddhnjcjaaGreatDoor
end
section
namespace Go.Proofs.YtjlbcgddhnjcjaaGreatDoor
open Go.Sx
section
def fH (U:Nat) (p0:Sg) (p1:aT) (p2:Int) (p3:e_):Option (Int):=
 Option.bind (bP U ((((((p0.1.1,p0.1.2.1,p0.1.2.2)),((p0.2.1.1,p0.2.1.2)),p0.2.2.1,p0.2.2.2)),p1,p2,p3)) (0:Int) (-1:Int)) fun a=>(some (a.1))
theorem PK:aP Tryz.prog 191:=Tryz.call191
theorem vV (U:Nat) {p0:Sg} {p1:aT} {p2:Int} {p3:e_} (a:Nat)  (j:Value)  (k:Value)  (m:Value)  (n:Value)  (p:lW)  (o:Value)  (q:oC)  (d:Value)  (s:oC)  (b:Value) (r:Int) (h:fH U p0 p1 p2 p3=some r):
  aU Tryz.prog 191 #[vP a,d,vI (p2),b] [bL a [vS (p0.1.1),j,k,m,n,vI (p0.2.2.1),o] 218,Sl aH j p0.1.2.1,Sl aE k p0.1.2.2,Sl bI m p0.2.1.1,S2 aY n p p0.2.1.2,S2 bI o q p0.2.2.2,S2 bI d s p1,Sl aY b p3] (fun x:Unit=>vI (r)) (fun x l=>l) (fun _ l=>l):=by
 refine aU.of Tryz.func191 rfl Tryz.ntmps191 rfl fun c=>?_
 refine sqR<|qkAsg rfl<|dtN<|sqR<|qkMove rfl<|qkMove rfl<|qkMove rfl<|qkMove rfl<|bM (Know.one (aB.sl (aB.fact 6 rfl))) fun e=>bM (Know.one ((aB.fact 7 rfl))) fun f=>?_
 refine aA (YI (r:=Value.agg #[Value.pointer (some ⟨a,0,none⟩),d,vI (p2),b]) rfl rfl rfl rfl (by intro w;simp[Instr.build,Instr.fill,c_,cS,cF,dA,dB,cT,eB,fS e,fS f])) rfl ?_
 refine aF (aI.alloc (cs:=[Value.pointer none,gM,vI (0:Int),gM]) rfl rfl) rfl fun t=>bM (Know.one (aB.sl (aB.fact 6 rfl))) fun g=>bM (Know.one ((aB.fact 7 rfl))) fun i=>bE 0 (vs:=[vP a,d,vI (p2),b]) rfl rfl (bY rfl (bY g (bY rfl (bY i rfl)))) rfl rfl rfl<|dtN<|sqR<|bnE h fun u v h=>aF (aI.callQ z_ (Cw U t a j k m n p o q d s b u v) rfl (aD.cons (aB.res 0 rfl) (lK [0,1,2,3,4,5,6,7] rfl))) rfl fun y=>qkMove rfl<|qkExt rfl<|qkExt rfl<|qkAsg rfl<|qkAsg rfl<|dtN<|sqR<|qkMove rfl<|qkAsg rfl<|dtN<|aQ ?_
 cases h
 exact wN rfl
end
section
def jS (U:Nat) (p0:Sg) (p1:aT) (p2:Int) (p3:Int):Option (Bool):=
 ck (0<=p3∧p3<(List.length p0.1.2.2:Int)) (Option.bind (fH U ((((p0.1.1,p0.1.2.1,p0.1.2.2)),((p0.2.1.1,p0.2.1.2)),p0.2.2.1,p0.2.2.2)) p1 p2 ((at' p0.1.2.2 p3).2.1.2)) fun a=>(some (decide (a≠(0:Int)))))
theorem WE:aP Tryz.prog 158:=Tryz.call158
theorem BU (U:Nat) {p0:Sg} {p1:aT} {p2:Int} {p3:Int} (a:Nat)  (d:Value)  (e:Value)  (f:Value)  (g:Value)  (k:lW)  (i:Value)  (m:oC)  (j:Value)  (n:oC) (r:Bool) (h:jS U p0 p1 p2 p3=some r):
  aU Tryz.prog 158 #[vP a,j,vI (p2),vI (p3)] [bL a [vS (p0.1.1),d,e,f,g,vI (p0.2.2.1),i] 218,Sl aH d p0.1.2.1,Sl aE e p0.1.2.2,Sl bI f p0.2.1.1,S2 aY g k p0.2.1.2,S2 bI i m p0.2.2.2,S2 bI j n p1] (fun x:Unit=>vB (r)) (fun x l=>l) (fun _ l=>l):=by
 refine aU.of Tryz.func158 rfl Tryz.ntmps158 rfl fun c=>?_
 refine sqR<|qkAsg rfl<|dtN<|sqR<|qkMove rfl<|qkMove rfl<|qkMove rfl<|qkMove rfl<|aA (bR rfl) rfl<|qkFld rfl<|qkFld rfl<|aA (dR rfl (aB.fact 0 rfl) rfl rfl rfl) rfl<|qkMove rfl<|ckE h fun b h=>aA (a_ rfl rfl (aB.fact 2 rfl) rfl rfl b) rfl<|aA (oO rfl rfl rfl rfl rfl) rfl<|aA (qN rfl (aB.fact 2 rfl) rfl rfl rfl yH b) rfl<|bnE h fun o p h=>aF (aI.callQ PK (vV U a d e f g k i m j n ((at' p0.1.2.2 p3).2.1.1) o p) rfl (aD.cons (aB.fact 0 rfl) (aD.cons (aB.fact 1 rfl) (aD.cons (aB.fact 2 rfl) (aD.cons (aB.fact 3 rfl) (aD.cons (aB.fact 4 rfl) (aD.cons (aB.fact 5 rfl) (aD.cons (aB.fact 6 rfl) (aD.cons (uG (aB.fact 2 rfl) yJ b.1 b.2) .nil))))))))) rfl fun q=>qkNeq rfl<|qkAsg rfl<|dtN<|aQ ?_
 cases h
 exact lC rfl
end
section
def mP  (a:Unit):Option (Int):=
 some (-1:Int)
def jP (U:Nat) (p0:F_) (p1:aT) (p2:Int) (a:Int) (b:(Int)->Option (Int)):Option (Int):=
 if a<(List.length p0.1.2.2:Int)then(Option.bind (jS U ((((p0.2.1.1.1,p0.2.1.1.2.1,p0.2.1.1.2.2)),((p0.2.1.2.1.1,p0.2.1.2.1.2)),p0.2.1.2.2.1,p0.2.1.2.2.2)) p1 p2 a) fun c=>(if c=true then(some (a))else(b (wI .i64 (a+(1:Int))))))else(mP  (()))
def eI (U:Nat) (p0:F_) (p1:aT) (p2:Int):Option (Int):=
 bJ (jP U p0 p1 p2) U (0:Int)
theorem PD:aP Tryz.prog 116:=Tryz.call116
theorem xN (U:Nat) {p0:F_} {p1:aT} {p2:Int} (bx0:Nat)  (v1:Value)  (v2:Value)  (bx3:Nat)  (v4:Value)  (v5:Value)  (v6:Value)  (v7:Value)  (z8:lW)  (v9:Value)  (z10:oC)  (v11:Value)  (z12:lW)  (v13:Value)  (z14:oC) (r:Int) (h:eI U p0 p1 p2=some r):
  aU Tryz.prog 116 #[vP bx0,v13,vI (p2)] [bL bx0 [vS (p0.1.1),v1,v2,vP bx3,v11] 170,Sl aH v1 p0.1.2.1,Sl aE v2 p0.1.2.2,bL bx3 [vS (p0.2.1.1.1),v4,v5,v6,v7,vI (p0.2.1.2.2.1),v9] 218,Sl aH v4 p0.2.1.1.2.1,Sl aE v5 p0.2.1.1.2.2,Sl bI v6 p0.2.1.2.1.1,S2 aY v7 z8 p0.2.1.2.1.2,S2 bI v9 z10 p0.2.1.2.2.2,S2 aY v11 z12 p0.2.2,S2 bI v13 z14 p1] (fun x:Unit=>vI (r)) (fun x l=>l) (fun _ l=>l):=by
 refine aU.of Tryz.func116 rfl Tryz.ntmps116 rfl fun c=>?_
 unfold eI at h
 refine sqR<|qkAsg rfl<|dtN<|aG<|midU (fun a1=>mP  a1=some r) (fun a1 b2=>[]) (fun a1 b2=>[]) ?_ ?_
 ·refine sqR<|qkMove rfl<|aA (bR rfl) rfl<|qkFld rfl<|qkFld rfl<|aA (dR rfl (aB.fact 0 rfl) rfl rfl rfl) rfl<|qkLen (aB.fact 2 rfl) rfl<|qkMove rfl<|dtN<|aN<|loopL (jP U p0 p1 p2) (fun a5 b6=>[(0,vP bx0),(1,v13),(2,vI (p2)),(13,vI (List.length p0.1.2.2:Int)),(14,vI (a5))]) (fun a5 b6=>[]) (0:Int) () h SF (aR.refl _) ?_
  intro k7 a5 b6 h
  refine sqR<|qkLss rfl<|dtN<|aG ?_
  refine eT h rfl (fun h=>?_) fun h=>?_
  ·refine cJ<|aG<|aN<|sqR<|qkMove rfl<|qkAsg rfl<|dtN<|sqR<|qkMove rfl<|aA (bR rfl) rfl<|qkFld rfl<|aA (dR rfl (aB.fact 0 rfl) rfl rfl rfl) rfl<|qkMove rfl<|qkMove rfl<|qkMove rfl<|bnE h fun r9 w10 h=>aF (aI.callQ WE (BU U bx3 v4 v5 v6 v7 z8 v9 z10 v13 z14 r9 w10) rfl (lK [3,4,5,6,7,8,10] rfl)) rfl fun x11=>dtN ?_
   refine AG h rfl (fun _ h=>?_) fun _ h=>?_
   ·refine sqR<|qkMove rfl<|qkAsg rfl<|dtN<|aQ<|bQ<|aJ<|aJ<|bQ<|aJ ?_
    cases h
    exact lC rfl
   refine dQ<|inT<|aM<|qkAdd rfl<|qkMove rfl<|dtN ?_
   exact yX (wI .i64 (a5+(1:Int))) () h SF rfl
  refine fM ?_
  exact gR () (()) h SF rfl
 intro a1 b2 h
 unfold mP at h
 refine sqR<|qkAsg rfl<|dtN<|aQ ?_
 cases h
 exact lC rfl
end
section
def tJ (p0:Int) (p1:eK) (p2:Int) (a:Bool):Option (Int):=
 if a=true then(some (p2))else(if p0=(3:Int)then(some (-1:Int))else(if p2<p1.1 then(some (p1.1))else(some (p1.2))))
def vA (U:Nat) (p0:Int) (p1:eK) (p2:Int):Option (Int):=
 if p1.1<=p2 then(tJ p0 p1 p2 (decide (p2<=p1.2)))else(tJ p0 p1 p2 (false))
theorem Zf:aP Tryz.prog 77:=Tryz.call77
theorem IP (U:Nat) {p0:Int} {p1:eK} {p2:Int} (r:Int) (h:vA U p0 p1 p2=some r):
  aU Tryz.prog 77 #[vI (p0),Value.agg #[vI (p1.1),vI (p1.2)],vI (p2)] [] (fun x:Unit=>vI (r)) (fun x l=>l) (fun _ l=>l):=by
 refine aU.of Tryz.func77 rfl Tryz.ntmps77 rfl fun c=>?_
 refine sqR<|aF (aI.box (cs:=[vI (p1.1),vI (p1.2)]) rfl rfl) rfl fun b1=>qkAsg rfl<|dtN<|aG<|aN<|aG<|midU (fun a3=>tJ p0 p1 p2 a3=some r) (fun a3 b4=>[(0,vI (p0)),(2,vI (p2)),(4,vP b1),(7,vB (a3))]) (fun a3 b4=>[bL b1 [vI (p1.1),vI (p1.2)] 114]) ?_ ?_
 ·refine aM<|qkMove rfl ?_
  refine aA (jV (i:=0) rfl rfl rfl rfl rfl (by decide)) rfl ?_
  refine qkLd 0 rfl<|aA (Ce rfl rfl) rfl<|qkMove rfl ?_
  refine BS h rfl (fun _ h=>?_) fun _ h=>?_
  ·refine gyMove rfl ?_
   refine aS rfl (jV (i:=1) rfl rfl rfl rfl rfl (by decide)) rfl ?_
   refine aS rfl (eF 0 rfl rfl rfl rfl rfl) rfl<|aS rfl (zY rfl rfl) rfl<|qkPkT rfl<|qkAsg rfl<|dtN ?_
   exact gR (decide (p2<=p1.2)) () h SF rfl
  refine gdSkip rfl<|gdSkip rfl<|gdSkip rfl<|gdSkip rfl<|qkPkF rfl<|qkAsg rfl<|dtN ?_
  exact gR (false) () h SF rfl
 intro a3 b4 h
 refine AG h rfl (fun _ h=>?_) fun _ h=>?_
 ·refine sqR<|qkMove rfl<|qkAsg rfl<|dtN<|aQ<|bQ<|aJ ?_
  cases h
  exact wN rfl
 refine sqR<|qkMove rfl<|qkEql rfl<|qkAsg rfl<|dtN ?_
 refine eT h rfl (fun h=>?_) fun h=>?_
 ·refine sqR<|qkAsg rfl<|dtN<|aQ<|bQ<|aJ ?_
  cases h
  exact wN rfl
 refine sqR<|qkMove rfl ?_
 refine aA (jV (i:=0) rfl rfl rfl rfl rfl (by decide)) rfl ?_
 refine qkLd 0 rfl<|qkLss rfl<|qkAsg rfl<|dtN ?_
 refine eT h rfl (fun h=>?_) fun h=>?_
 ·refine sqR ?_
  refine aA (jV (i:=0) rfl rfl rfl rfl rfl (by decide)) rfl ?_
  refine qkLd 0 rfl<|qkAsg rfl<|dtN<|aQ<|bQ<|aJ ?_
  cases h
  exact wN rfl
 refine dQ<|inT<|sqR ?_
 refine aA (jV (i:=1) rfl rfl rfl rfl rfl (by decide)) rfl ?_
 refine qkLd 0 rfl<|qkAsg rfl<|dtN<|aQ ?_
 cases h
 exact wN rfl
end
section
def mO  (a:aL):Option aL:=
 some (a)
def jO (U:Nat) (p0:F_) (p1:aT) (p2:Int) (p3:Int) (a:rI) (b:yE->Option aL):Option aL:=
 if a.1<(List.length ((at' p0.1.2.2 p3).2.2.2):Int)then(ck (0<=a.1∧a.1<(List.length ((at' p0.1.2.2 p3).2.2.2):Int)) (Option.bind (fH U ((((p0.2.1.1.1,p0.2.1.1.2.1,p0.2.1.1.2.2)),((p0.2.1.2.1.1,p0.2.1.2.1.2)),p0.2.1.2.2.1,p0.2.1.2.2.2)) p1 p2 ((at' ((at' p0.1.2.2 p3).2.2.2) a.1).2.2)) fun c=>(ck (0<=((at' ((at' p0.1.2.2 p3).2.2.2) a.1).1)∧((at' ((at' p0.1.2.2 p3).2.2.2) a.1).1)<(List.length p0.1.2.1:Int)) (ck (0<=p2∧p2<(List.length p0.2.2:Int)) (ck (0<=((at' ((at' p0.1.2.2 p3).2.2.2) a.1).1)∧((at' ((at' p0.1.2.2 p3).2.2.2) a.1).1)<(List.length (at' p0.2.2 p2):Int)) (Option.bind (vA U ((at' p0.1.2.1 ((at' ((at' p0.1.2.2 p3).2.2.2) a.1).1)).2.1) ((((at' (at' p0.2.2 p2) ((at' ((at' p0.1.2.2 p3).2.2.2) a.1).1)).1),((at' (at' p0.2.2 p2) ((at' ((at' p0.1.2.2 p3).2.2.2) a.1).1)).2))) c) fun d=>(ck (0<=((at' ((at' p0.1.2.2 p3).2.2.2) a.1).1)∧((at' ((at' p0.1.2.2 p3).2.2.2) a.1).1)<(List.length a.2:Int)) (b ((wI .i64 (a.1+(1:Int))),(List.set a.2 (Int.toNat ((at' ((at' p0.1.2.2 p3).2.2.2) a.1).1)) d))))))))))else(mO  (a.2))
def kJ (U:Nat) (p0:F_) (p1:aT) (p2:Int) (p3:Int):Option aL:=
 ck (0<=p2∧p2<(List.length p1:Int)) (ck ((List.length ([]:aL):Int)+(List.length (at' p1 p2):Int)<=1099511627) (ck (0<=p3∧p3<(List.length p0.1.2.2:Int)) (bJ (jO U p0 p1 p2 p3) U ((0:Int),(([]:aL)++(at' p1 p2))))))
theorem WG:aP Tryz.prog 186:=Tryz.call186
theorem Cy (U:Nat) {p0:F_} {p1:aT} {p2:Int} {p3:Int} (bx0:Nat)  (v1:Value)  (v2:Value)  (bx3:Nat)  (v4:Value)  (v5:Value)  (v6:Value)  (v7:Value)  (z8:lW)  (v9:Value)  (z10:oC)  (v11:Value)  (z12:lW)  (v13:Value)  (z14:oC) (r:aL) (h:kJ U p0 p1 p2 p3=some r):
  aU Tryz.prog 186 #[vP bx0,v13,vI (p2),vI (p3)] [bL bx0 [vS (p0.1.1),v1,v2,vP bx3,v11] 170,Sl aH v1 p0.1.2.1,Sl aE v2 p0.1.2.2,bL bx3 [vS (p0.2.1.1.1),v4,v5,v6,v7,vI (p0.2.1.2.2.1),v9] 218,Sl aH v4 p0.2.1.1.2.1,Sl aE v5 p0.2.1.1.2.2,Sl bI v6 p0.2.1.2.1.1,S2 aY v7 z8 p0.2.1.2.1.2,S2 bI v9 z10 p0.2.1.2.2.2,S2 aY v11 z12 p0.2.2,S2 bI v13 z14 p1] (fun x:Value=>x) (fun x l=>Ar bO x r::l) (fun _ l=>l):=by
 refine aU.of Tryz.func186 rfl Tryz.ntmps186 rfl fun c=>?_
 refine sqR<|qkAsg rfl<|dtN<|sqR<|qkMove rfl<|qkMove rfl<|ckE h fun j1 h=>aA (cY rfl rfl (aB.fact 10 rfl) rfl rfl j1) rfl<|aA (cW rfl (aB.fact 10 rfl) rfl rfl j1) rfl<|eQ (dH bO)<|ckE h fun j3 h=>aF (dW 0 cC rfl rfl rfl (aB.el (aB.fact 10 rfl) j1.1 j1.2) rfl rfl rfl rfl j3 rfl) rfl fun u2=>qkAsg rfl<|dtN<|aG<|midU (fun a5=>mO  a5=some r) (fun a5 b6=>[(9,u2)]) (fun a5 b6=>[Ar bO u2 a5]) ?_ ?_
 ·refine sqR<|qkMove rfl<|aA (bR rfl) rfl<|qkFld rfl<|qkFld rfl<|aA (dR rfl (aB.fact 0 rfl) rfl rfl rfl) rfl<|qkMove rfl<|ckE h fun j7 h=>aA (a_ rfl rfl (aB.fact 2 rfl) rfl rfl j7) rfl<|aA (oO rfl rfl rfl rfl rfl) rfl<|aA (qN rfl (aB.fact 2 rfl) rfl rfl rfl yI j7) rfl<|aA (fR rfl (uG (aB.fact 2 rfl) fK j7.1 j7.2) rfl) rfl<|qkMove rfl<|dtN<|aN<|loopL (jO U p0 p1 p2 p3) (fun a11 b12=>[(0,vP bx0),(1,v13),(2,vI (p2)),(9,u2),(26,(at' p0.1.2.2 p3).2.2.1),(27,vI (List.length ((at' p0.1.2.2 p3).2.2.2):Int)),(28,vI (a11.1))]) (fun a11 b12=>[Ar bO u2 a11.2]) ((0:Int),(([]:aL)++(at' p1 p2))) () h SF (aR.refl _) ?_
  intro k13 a11 b12 h
  refine sqR<|qkLss rfl<|dtN<|aG ?_
  refine eT h rfl (fun h=>?_) fun h=>?_
  ·refine cJ<|aG<|aN<|sqR<|ckE h fun j15 h=>aA (a_ rfl rfl (uG (aB.fact 2 rfl) fK j7.1 j7.2) rfl rfl j15) rfl<|aA (Oi (cs:=[vI ((at' ((at' p0.1.2.2 p3).2.2.2) a11.1).1),(at' ((at' p0.1.2.2 p3).2.2.2) a11.1).2.1]) rfl (uG (aB.fact 2 rfl) fK j7.1 j7.2) Jg rfl rfl rfl rfl j15) rfl<|aF (aI.alloc (cs:=[vI (0:Int),gM]) rfl rfl) rfl fun b16=>bM (Know.one ((uG (uG (aB.fact 2 rfl) fK j7.1 j7.2) BH j15.1 j15.2))) fun ho17=>bE 0 (vs:=[vI ((at' ((at' p0.1.2.2 p3).2.2.2) a11.1).1),(at' ((at' p0.1.2.2 p3).2.2.2) a11.1).2.1]) rfl rfl (bY rfl (bY ho17 rfl)) rfl rfl rfl<|dtN<|aG ?_
   refine JR.start [0,1,3,7,0,0,0,64,255,511] 8 mixedOrders (by decide +kernel) ?_
   refine JR.open (by exact rfl) ?_
   refine jkMove rfl<|jqN rfl (bR rfl)<|jkFld rfl<|bG rfl .nil (lX 0 rfl) (dR rfl (aB.fact 0 rfl) rfl rfl rfl) aK.z<|jkMove rfl<|jkMove rfl<|jkFld rfl<|jkLd 0 rfl<|bD 8 rfl rfl<|bnE h fun r18 w19 h=>aF (aI.callQ PK (vV U bx3 v4 v5 v6 v7 z8 v9 z10 v13 z14 ((at' ((at' p0.1.2.2 p3).2.2.2) a11.1).2.1) r18 w19) rfl (aD.cons (aB.fact 3 rfl) (aD.cons (aB.fact 4 rfl) (aD.cons (aB.fact 5 rfl) (aD.cons (aB.fact 6 rfl) (aD.cons (aB.fact 7 rfl) (aD.cons (aB.fact 8 rfl) (aD.cons (aB.fact 10 rfl) (aD.cons (uG (uG (aB.fact 2 rfl) fK j7.1 j7.2) BH j15.1 j15.2) .nil))))))))) rfl fun x20=>qkAsg rfl<|dtN ?_
   refine JR.start [0,0,2,0,8,24,56,120,0,256,1016,2040,4088,0,8192,24576,57344,0,253952,516096,0,1048576,4186112,8380416,0,33554424,67108863,134217727] 26 mixedOrders (by decide +kernel) ?_
   refine JR.open (by exact rfl) ?_
   refine jkMove rfl<|jkFld rfl<|jkLd 0 rfl<|jkMove rfl<|jqN rfl (bR rfl)<|jkFld rfl<|jkFld rfl<|bG rfl .nil (lX 0 rfl) (dR rfl (aB.fact 0 rfl) rfl rfl rfl) aK.z<|jkFld rfl<|jkLd 0 rfl<|ckE h fun j21 h=>bG rfl .nil (lX 1 rfl) (a_ rfl rfl (aB.fact 0 rfl) rfl rfl j21) aK.z<|jqN rfl (oO rfl rfl rfl rfl rfl)<|bG rfl .nil (lX 1 rfl) (qN rfl (aB.fact 0 rfl) rfl rfl rfl vQ j21) aK.z<|jkMove rfl<|jqN rfl (bR rfl)<|jkFld rfl<|bG rfl .nil (lX 0 rfl) (dR rfl (aB.fact 0 rfl) rfl rfl rfl) aK.z<|jkMove rfl<|ckE h fun j22 h=>bG rfl .nil (lX 9 rfl) (cY rfl rfl (aB.fact 0 rfl) rfl rfl j22) aK.z<|bG rfl .nil (lX 9 rfl) (cW rfl (aB.fact 0 rfl) rfl rfl j22) aK.z<|jkFld rfl<|jkLd 0 rfl<|ckE h fun j23 h=>bG rfl .nil (lX 9 rfl) (a_ rfl rfl (aB.el (aB.fact 0 rfl) j22.1 j22.2) rfl rfl j23) aK.z<|bG rfl .nil (lX 9 rfl) (iA (cs:=[vI ((at' (at' p0.2.2 p2) ((at' ((at' p0.1.2.2 p3).2.2.2) a11.1).1)).1),vI ((at' (at' p0.2.2 p2) ((at' ((at' p0.1.2.2 p3).2.2.2) a11.1).1)).2)]) rfl (aB.el (aB.fact 0 rfl) j22.1 j22.2) bN rfl rfl rfl rfl j23) aK.z<|jkMove rfl<|bnE h fun r24 w25 h=>JR.loud rfl rfl rfl (aI.callQ Zf (IP U  r24 w25) rfl .nil) rfl (fun x26=>(mW [([0],[])] rfl)) fun x26=>bD 26 rfl rfl<|ckE h fun j27 h=>aA (a_ rfl rfl (aO (aB.res 1 rfl) cC) rfl rfl j27) rfl<|xH 1 r24 j27 rfl rfl rfl rfl rfl rfl rfl<|dN<|inT<|aM<|qkAdd rfl<|qkMove rfl<|dtN ?_
   exact kZ ((wI .i64 (a11.1+(1:Int))),(List.set a11.2 (Int.toNat ((at' ((at' p0.1.2.2 p3).2.2.2) a11.1).1)) r24)) () h SF (aR.ix [1] rfl rfl) (aD.refl _ _)
  refine fM ?_
  exact gR (a11.2) () h SF rfl
 intro a5 b6 h
 unfold mO at h
 refine sqR<|qkMove rfl<|qkAsg rfl<|dtN<|aQ ?_
 cases h
 exact gY (u2) rfl rfl (RV.tmp rfl) (aR.refl _) aD.nil
end
section
def mQ  (a:aT):Option aT:=
 some (a)
def jQ (b:Int×aT) (a:(Int×aT)->Option aT) (c:aT):Option aT:=
 a ((wI .i64 (b.1+(1:Int))),c)
def gS (U:Nat) (p0:F_) (p1:aT) (p2:Int) (a:Int×aT) (b:(Int×aT)->Option aT):Option aT:=
 if a.1<(List.length p1:Int)then(ck (0<=a.1) (if(cD .u32 (nZ .u32 p2 a.1) (1:Int))=(1:Int)then(Option.bind (eI U ((((p0.1.1,p0.1.2.1,p0.1.2.2)),((((p0.2.1.1.1,p0.2.1.1.2.1,p0.2.1.1.2.2)),((p0.2.1.2.1.1,p0.2.1.2.1.2)),p0.2.1.2.2.1,p0.2.1.2.2.2)),p0.2.2)) p1 a.1) fun c=>(Option.bind (kJ U ((((p0.1.1,p0.1.2.1,p0.1.2.2)),((((p0.2.1.1.1,p0.2.1.1.2.1,p0.2.1.1.2.2)),((p0.2.1.2.1.1,p0.2.1.2.1.2)),p0.2.1.2.2.1,p0.2.1.2.2.2)),p0.2.2)) p1 a.1 c) fun d=>(ck (0<=a.1∧a.1<(List.length a.2:Int)) (jQ a b (List.set a.2 (Int.toNat a.1) d)))))else(jQ a b (a.2))))else(mQ  (a.2))
def eJ (U:Nat) (p0:F_) (p1:aT) (p2:Int):Option aT:=
 Option.bind (kB U p1) fun a=>(bJ (gS U p0 p1 p2) U ((0:Int),a))
theorem PG:aP Tryz.prog 150:=Tryz.call150
theorem xO (U:Nat) {p0:F_} {p1:aT} {p2:Int} (bx0:Nat)  (v1:Value)  (v2:Value)  (bx3:Nat)  (v4:Value)  (v5:Value)  (v6:Value)  (v7:Value)  (z8:lW)  (v9:Value)  (z10:oC)  (v11:Value)  (z12:lW)  (v13:Value)  (z14:oC) (r:aT) (h:eJ U p0 p1 p2=some r):
  aU Tryz.prog 150 #[vP bx0,v13,vU (p2)] [bL bx0 [vS (p0.1.1),v1,v2,vP bx3,v11] 170,Sl aH v1 p0.1.2.1,Sl aE v2 p0.1.2.2,bL bx3 [vS (p0.2.1.1.1),v4,v5,v6,v7,vI (p0.2.1.2.2.1),v9] 218,Sl aH v4 p0.2.1.1.2.1,Sl aE v5 p0.2.1.1.2.2,Sl bI v6 p0.2.1.2.1.1,S2 aY v7 z8 p0.2.1.2.1.2,S2 bI v9 z10 p0.2.1.2.2.2,S2 aY v11 z12 p0.2.2,S2 bI v13 z14 p1] (fun x:CG=>x.1) (fun x l=>Ar cE.raw x.1 x.2::fT bO x.2 r::l) (fun _ l=>l):=by
 refine aU.of Tryz.func150 rfl Tryz.ntmps150 rfl fun c=>?_
 refine sqR<|qkAsg rfl<|dtN<|sqR<|qkMove rfl<|bnE h fun r1 w2 h=>aF (aI.callQ EA (tB U v13 z14 r1 w2) rfl (lK [10] rfl)) rfl fun x3=>qkAsg rfl<|dtN<|aG<|midL (B:=eV) (fun a6=>mQ  a6=some r) (fun a6 b7=>[(7,x3.1)]) (fun a6 b7=>[Ar cE.raw x3.1 b7,fT bO b7 a6]) ?_ ?_
 ·refine sqR<|qkMove rfl<|aA (iW rfl (aB.fact 10 rfl) rfl) rfl<|qkMove rfl<|dtN<|aN<|loopL (B:=eV) (gS U p0 p1 p2) (fun a12 b13=>[(0,vP bx0),(1,v13),(2,vU (p2)),(7,x3.1),(12,vI (List.length p1:Int)),(13,vI (a12.1))]) (fun a12 b13=>[Ar cE.raw x3.1 b13,fT bO b13 a12.2]) ((0:Int),r1) (x3.2) h SF (aR.refl _) ?_
  intro k14 a12 b13 h
  refine sqR<|qkLss rfl<|dtN<|aG ?_
  refine eT h rfl (fun h=>?_) fun h=>?_
  ·refine cJ<|aG<|midL (B:=eV) (fun a18=>jQ a12 (bJ (gS U p0 p1 p2) k14) a18=some r) (fun a18 b19=>[(0,vP bx0),(1,v13),(2,vU (p2)),(7,x3.1),(12,vI (List.length p1:Int)),(13,vI (a12.1))]) (fun a18 b19=>[Ar cE.raw x3.1 b19,fT bO b19 a18]) ?_ ?_
   ·refine aN<|sqR<|qkMove rfl<|qkAsg rfl<|dtN<|sqR<|qkMove rfl<|qkMove rfl<|ckE h fun j20 h=>aA (Ez rfl rfl j20) rfl<|qkAnd rfl<|qkEql rfl<|dtN ?_
    refine eT h rfl (fun h=>?_) fun h=>?_
    ·refine aM<|qkMove rfl<|qkMove rfl<|qkMove rfl<|qkMove rfl<|qkMove rfl<|qkMove rfl<|qkMove rfl<|qkMove rfl<|bnE h fun r22 w23 h=>aF (aI.callQ PD (xN U bx0 v1 v2 bx3 v4 v5 v6 v7 z8 v9 z10 v11 z12 v13 z14 r22 w23) rfl (lK [0,1,2,3,4,5,6,7,8,9,10] rfl)) rfl fun x24=>bnE h fun r25 w26 h=>aF (aI.callQ WG (Cy U bx0 v1 v2 bx3 v4 v5 v6 v7 z8 v9 z10 v11 z12 v13 z14 r25 w26) rfl (lK [0,1,2,3,4,5,6,7,8,9,10] rfl)) rfl fun x27=>ckE h fun j28 h=>aA (cY rfl rfl (aV (i:=1) (j:=2) rfl rfl cC) rfl rfl j28) rfl<|bM (Know.one ((aO (aB.res 0 rfl) cC))) fun ho29=>eQ (wA (k:=a12.1) 2 0 rfl rfl rfl j28) ?_
     refine nY 0 1 ⟨j28.1,by first|exact j28.2|simpa using j28.2⟩ rfl rfl rfl rfl rfl (by simp) ho29 rfl ?_
     refine dN<|inT ?_
     exact gR (List.set a12.2 (Int.toNat a12.1) r25) (List.set b13 (Int.toNat a12.1) x27) h SF rfl
    refine dQ<|inT ?_
    exact gR (a12.2) (b13) h SF rfl
   intro a18 b19 h
   unfold jQ at h
   refine aM<|qkAdd rfl<|qkMove rfl<|dtN ?_
   exact yX ((wI .i64 (a12.1+(1:Int))),a18) (b19) h SF rfl
  refine fM ?_
  exact gR (a12.2) (b13) h SF rfl
 intro a6 b7 h
 unfold mQ at h
 refine sqR<|qkMove rfl<|qkAsg rfl<|dtN<|aQ ?_
 cases h
 exact gY (x3.1,b7) rfl rfl (RV.tmp rfl) (aR.refl _) aD.nil
end
section
def xE  (a:Int):Option (Int):=
 some (a)
def s_ (c:eK) (b:d_->Option (Int)) (a:Int):Option (Int):=
 b (a,(wI .i64 (c.2+(1:Int))))
def qK (p0:Int) (d:Int->Option Bool) (a:eK) (b:d_->Option (Int)):Option (Int):=
 if a.2<p0 then(Option.bind (d a.2) fun c=>(if c=true then(ck (0<=a.2) (s_ a b (Em .u32 a.1 (xS .u32 (1:Int) a.2))))else(s_ a b (a.1))))else(xE  (a.1))
def yP (U:Nat) (p0:Int) (a:Int->Option Bool):Option (Int):=
 bJ (qK p0 a) U ((0:Int),(0:Int))
theorem Wv:aP Tryz.prog 114:=Tryz.call114
theorem LD (U:Nat) {p0:Int} {g1:Int->Option Bool} (f1:FuncId) (cs1:eV) (Lf:List aX) (hb_g1:aP Tryz.prog f1) (hm_g1:∀(y0:Int) (r:Bool),g1 y0=some r->aU Tryz.prog f1 ([vI (y0)]++cs1).toArray Lf (fun _:Unit=>vB (r)) (fun _ l=>l) (fun _ l=>l)) (r:Int) (h:yP U p0 g1=some r):
  aU Tryz.prog 114 #[vI (p0),Value.func (.func f1) #[] (cs1).toArray] ([]++Lf) (fun x:Unit=>vU (r)) (fun x l=>l) (fun _ l=>l):=by
 refine aU.of Tryz.func114 rfl Tryz.ntmps114 rfl fun c=>?_
 unfold yP at h
 refine sqR<|qkAsg rfl<|dtN<|sqR<|qkAsg rfl<|dtN<|aG<|xQ (B:=Unit) (fun a2=>xE  a2=some r) (fun a2 b3=>[(5,vU (a2))]) (fun a2 b3=>[]) (fun a2 b3=>([]++Lf)) ?_ ?_
 ·refine sqR<|qkMove rfl<|qkMove rfl<|dtN<|aN<|Ep (B:=Unit) (qK p0 g1) (fun a7 b8=>[(1,Value.func (.func f1) #[] (cs1).toArray),(5,vU (a7.1)),(7,vI (p0)),(8,vI (a7.2))]) (fun a7 b8=>[]) (fun a7 b8=>([]++Lf)) ((0:Int),(0:Int)) () h SF (aR.refl _) (aD.refl _ _) ?_
  intro k9 a7 b8 h
  refine sqR<|qkLss rfl<|dtN<|aG ?_
  refine eT h rfl (fun h=>?_) fun h=>?_
  ·refine cJ<|aG<|xQ (B:=Unit) (fun a12=>s_ a7 (bJ (qK p0 g1) k9) a12=some r) (fun a12 b13=>[(1,Value.func (.func f1) #[] (cs1).toArray),(5,vU (a12)),(7,vI (p0)),(8,vI (a7.2))]) (fun a12 b13=>[]) (fun a12 b13=>([]++Lf)) ?_ ?_
   ·refine aN<|sqR<|qkMove rfl<|qkAsg rfl<|dtN<|sqR<|qkMove rfl<|qkMove rfl<|bnE h fun r14 w15 h=>aF (qU (vs:=[vI (a7.2)]) (cs:=cs1) hb_g1 rfl (hm_g1 a7.2 r14 w15) rfl (aD.tail _) (fun _ _=>rfl)) rfl fun x16=>dtN ?_
    refine AG h rfl (fun _ h=>?_) fun _ h=>?_
    ·refine aM<|qkMove rfl<|qkMove rfl<|ckE h fun j18 h=>aA (Gj rfl rfl j18) rfl<|aA (Mq rfl rfl) rfl<|qkAsg rfl<|dN<|inT ?_
     exact gR (Em .u32 a7.1 (xS .u32 (1:Int) a7.2)) () h SF rfl
    refine dQ<|inT ?_
    exact gR (a7.1) () h SF rfl
   intro a12 b13 h
   unfold s_ at h
   refine aM<|qkAdd rfl<|qkMove rfl<|dtN ?_
   exact yX (a12,(wI .i64 (a7.2+(1:Int)))) () h SF rfl
  refine fM ?_
  exact gR (a7.1) () h SF rfl
 intro a2 b3 h
 unfold xE at h
 refine sqR<|qkMove rfl<|qkAsg rfl<|dtN<|aQ ?_
 cases h
 exact lC rfl
end
section
def jL (U:Nat) (p0:Int) (p1:F_) (p2:aT):Option (Bool):=
 Option.bind (eI U ((((p1.1.1,p1.1.2.1,p1.1.2.2)),((((p1.2.1.1.1,p1.2.1.1.2.1,p1.2.1.1.2.2)),((p1.2.1.2.1.1,p1.2.1.2.1.2)),p1.2.1.2.2.1,p1.2.1.2.2.2)),p1.2.2)) p2 p0) fun a=>(some (decide ((0:Int)<=a)))
theorem Ww:aP Tryz.prog 115:=Tryz.call115
theorem zU (U:Nat) {p0:Int} {p1:F_} {p2:aT} (i:Nat)  (b:Nat)  (n:Value)  (o:Value)  (d:Nat)  (p:Value)  (q:Value)  (s:Value)  (t:Value)  (u:lW)  (e:Value)  (j:oC)  (f:Value)  (k:lW)  (a:Nat)  (g:Value)  (m:oC) (r:Bool) (h:jL U p0 p1 p2=some r):
  aU Tryz.prog 115 #[vI (p0),vP i,vP a] [bL i [vP b] 103,bL b [vS (p1.1.1),n,o,vP d,f] 170,Sl aH n p1.1.2.1,Sl aE o p1.1.2.2,bL d [vS (p1.2.1.1.1),p,q,s,t,vI (p1.2.1.2.2.1),e] 218,Sl aH p p1.2.1.1.2.1,Sl aE q p1.2.1.1.2.2,Sl bI s p1.2.1.2.1.1,S2 aY t u p1.2.1.2.1.2,S2 bI e j p1.2.1.2.2.2,S2 aY f k p1.2.2,bL a [g] 38,S2 bI g m p2] (fun x:Unit=>vB (r)) (fun x l=>l) (fun _ l=>l):=by
 refine aU.of Tryz.func115 rfl Tryz.ntmps115 rfl fun c=>?_
 refine sqR<|qkAsg rfl<|dtN<|sqR<|aA (dR rfl (aB.fact 0 rfl) rfl rfl rfl) rfl<|aA (dR rfl (aB.fact 11 rfl) rfl rfl rfl) rfl<|qkMove rfl<|bnE h fun v w h=>aF (aI.callQ PD (xN U b n o d p q s t u e j f k g m v w) rfl (lK [1,2,3,4,5,6,7,8,9,10,12] rfl)) rfl fun y=>aA (Ce rfl rfl) rfl<|qkAsg rfl<|dtN<|aQ ?_
 cases h
 exact lC rfl
end
section
def bW (U:Nat) (p0:F_) (p1:aT):Option (Int):=
 Option.bind (yP U (List.length p0.2.2:Int) (fun b=>jL U b ((((p0.1.1,p0.1.2.1,p0.1.2.2)),((((p0.2.1.1.1,p0.2.1.1.2.1,p0.2.1.1.2.2)),((p0.2.1.2.1.1,p0.2.1.2.1.2)),p0.2.1.2.2.1,p0.2.1.2.2.2)),p0.2.2)) p1)) fun a=>(some (a))
theorem KS:aP Tryz.prog 80:=Tryz.call80
theorem kU (U:Nat) {p0:F_} {p1:aT} (a:Nat)  (j:Value)  (k:Value)  (d:Nat)  (m:Value)  (n:Value)  (o:Value)  (p:Value)  (v:lW)  (q:Value)  (f:oC)  (e:Value)  (g:lW)  (b:Value)  (i:oC) (r:Int) (h:bW U p0 p1=some r):
  aU Tryz.prog 80 #[vP a,b] [bL a [vS (p0.1.1),j,k,vP d,e] 170,Sl aH j p0.1.2.1,Sl aE k p0.1.2.2,bL d [vS (p0.2.1.1.1),m,n,o,p,vI (p0.2.1.2.2.1),q] 218,Sl aH m p0.2.1.1.2.1,Sl aE n p0.2.1.1.2.2,Sl bI o p0.2.1.2.1.1,S2 aY p v p0.2.1.2.1.2,S2 bI q f p0.2.1.2.2.2,S2 aY e g p0.2.2,S2 bI b i p1] (fun x:Unit=>vU (r)) (fun x l=>l) (fun _ l=>l):=by
 refine aU.of Tryz.func80 rfl Tryz.ntmps80 rfl fun c=>?_
 refine sqR<|aF (aI.box (cs:=[vP a]) rfl rfl) rfl fun s=>bM (Know.one (aB.sl (aB.fact 10 rfl))) fun u=>?_
 refine aF (aI.box (cs:=[b]) rfl (by rw[fS u])) rfl fun t=>?_
 refine qkAsg rfl<|dtN<|sqR<|qkLd 1 rfl<|aA (bR rfl) rfl<|qkFld rfl<|aA (dR rfl (aB.fact 0 rfl) rfl rfl rfl) rfl<|aA (iW rfl (aB.fact 9 rfl) rfl) rfl<|aA (uC (cs:=[.tmp 2,.tmp 3]) (vs:=[vP s,vP t]) rfl) rfl<|bnE h fun w y h=>aF (aI.callQ Wv (LD U 115 [vP s,vP t] [bL s [vP a] 103,bL a [vS (p0.1.1),j,k,vP d,e] 170,Sl aH j p0.1.2.1,Sl aE k p0.1.2.2,bL d [vS (p0.2.1.1.1),m,n,o,p,vI (p0.2.1.2.2.1),q] 218,Sl aH m p0.2.1.1.2.1,Sl aE n p0.2.1.1.2.2,Sl bI o p0.2.1.2.1.1,S2 aY p v p0.2.1.2.1.2,S2 bI q f p0.2.1.2.2.2,S2 aY e g p0.2.2,bL t [b] 38,S2 bI b i p1] Ww (fun A r h=>zU U s a j k d m n o p v q f e g t b i r h) w y) rfl (aD.cons (aB.res 1 rfl) (aD.cons (aB.fact 0 rfl) (aD.cons (aB.fact 1 rfl) (aD.cons (aB.fact 2 rfl) (aD.cons (aB.fact 3 rfl) (aD.cons (aB.fact 4 rfl) (aD.cons (aB.fact 5 rfl) (aD.cons (aB.fact 6 rfl) (aD.cons (aB.fact 7 rfl) (aD.cons (aB.fact 8 rfl) (aD.cons (aB.fact 9 rfl) (aD.cons (aB.res 0 rfl) (lK [10] rfl)))))))))))))) rfl fun z=>qkAsg rfl<|dtN<|aQ ?_
 cases h
 exact wN rfl
end
end Go.Proofs.YtjlbcgddhnjcjaaGreatDoor
end
section
namespace Go.Proofs.YtjlbcgddhnjcjaaGreatDoor
open Go Go.Sx
section
abbrev RL:=E×List (Nat×E)
abbrev AE:=vZ×GR×Int×aT
def Bi (R:List RL):Kl:=R.map fun r=>(r.1.ts,r.2.map fun s=>((s.1:Int),s.2.ts))
def JN (a:Nat) (e:E):Bool:=e.wf a false&&decide (e.depth<=100)&&decide (e.ts.length<=800)
def wO (a:Nat) (R:List RL):Bool:=decide (R.length<=20)&&R.all fun r=>JN a r.1&&decide (r.2.length<=20)&&r.2.all fun s=>decide (s.1<a)&&JN a s.2
instance:Inhabited E:=⟨.lf 1 0⟩
def HQ (g:GR) (v i:Nat):Int:=zD (row g (jJ (row g v) i).1.toNat) (v:Int)
def eO (g:GR):aT:=(List.range g.2.length).map fun v=>(List.range (row g v).length).map (HQ g v)
def uK (S:AE) (c:aT) (v:Nat) (e:E):Int:=e.den (Ym (S,c,(v:Int),[])) (row S.2.1 v).length (-1)
def sF (S:AE) (R:List RL) (c:aT) (v:Nat):Int:=Bm (R.map fun r=>uK S c v r.1)
def FC (kind:Int) (b:eK) (x:Int):Int:=if b.1<=x∧x<=b.2 then x else if kind=3 then -1 else if x<b.1 then b.1 else b.2
def Sb (S:AE) (vars:List Dg) (c:aT) (v:Nat) (a:aL) (s:Nat×E):aL:=a.set s.1 (FC (at' vars (s.1:Int)).2.1 (Dt S.2.1 vars v s.1) (uK S c v s.2))
def yC (S:AE) (vars:List Dg) (R:List RL) (c:aT) (v:Nat) (i:Int):aL:=(at' R i).2.foldl (Sb S vars c v) (at' c (v:Int))
def Yh (S:AE) (R:List RL) (c:aT):Nat:=j_ (fun v=>decide (0<=sF S R c v)) S.2.1.2.length
def gJ (S:AE) (vars:List Dg) (R:List RL) (c:aT) (t:Nat):aT:=(List.range c.length).map fun v=>if t.testBit v=true then yC S vars R c v (sF S R c v)else at' c (v:Int)
structure pK (g:GR) (nv:Nat) (c:aT):Prop where
 len:c.length=g.2.length
 row:∀v:Nat,v<g.2.length->(at' c (v:Int)).length=nv
theorem G_.shape {g:GR} {c:aT} {vars:List Dg} (h:G_ g c vars):pK g vars.length c:=⟨h.len,h.row⟩
section
variable {S:AE} {nv:Nat} {c:List (List Int)} {v:Nat}
theorem wok (b:S.2.2.2=eO S.2.1) (d:VG S.2.1) (hc:pK S.2.1 nv c) (g:v<S.2.1.2.length) (h:List (Int×Int)):WOk (S,c,(v:Int),h) nv S.2.1.2.length v:=by
 refine⟨rfl,g,rfl,d.len,hc.len,hc.row,fun u a i f=> ?_,by show S.2.2.2.length=_;rw[b];simp[eO],fun u a=>by
  show(at' S.2.2.2 (u:Int)).length=_
  rw[b,eO,zE _ a,List.length_map,List.length_range]⟩
 obtain⟨w,j,e⟩:=d.to a f
 show 0<=(jJ (row S.2.1 u) i).1∧(jJ (row S.2.1 u) i).1<_
 rw[e];omega
theorem NJ (i:S.2.2.2=eO S.2.1) (a:VG S.2.1) (hc:pK S.2.1 nv c) (f:v<S.2.1.2.length) {e:E} (b:JN nv e=true):fH 1000 S c (v:Int) e.ts=some (uK S c v e):=by
 simp only[JN,Bool.and_eq_true,decide_eq_true_eq]at b
 have g:=a.n24
 have d:=(a.node v f).deg
 unfold fH
 have:=VF (wok i a hc f e.ts) (deg:=(row S.2.1 v).length) rfl (by omega) b.2 e false 1000 0 (-1) [] [] (by simp) rfl b.1.1 (fun h=>by cases h) (by omega)
 rw[bA (show bP 1000 _ (0:Int) (-1)=_ from this)]
 rfl
end
section
variable {p:vZ} {g:GR} {gr:Int} {R:List RL} {nv:Nat} {c:List (List Int)} {v:Nat}
theorem EU (a:p.2.2.map uX=Bi R):p.2.2.length=R.length:=by simpa [Bi]using congrArg List.length a
theorem Qq (b:p.2.2.map uX=Bi R) {i:Nat} (a:i<R.length):uX (at' p.2.2 (i:Int))=((at' R (i:Int)).1.ts,(at' R (i:Int)).2.map fun s=>((s.1:Int),s.2.ts)):=by
 have d:=EU b
 have:=congrArg (fun q=>q[i]?) b
 simp only[Bi,List.getElem?_map,List.getElem?_eq_getElem a,List.getElem?_eq_getElem (show i<p.2.2.length by omega),Option.map_some,Option.some.injEq]at this
 rw[kF a,kF (show i<p.2.2.length by omega)];exact this
theorem Qx (a:wO nv R=true) {i:Nat} (b:i<R.length):JN nv (at' R (i:Int)).1=true∧(at' R (i:Int)).2.length<=20∧∀s∈(at' R (i:Int)).2,s.1<nv∧JN nv s.2=true:=by
 simp only[wO,Bool.and_eq_true,List.all_eq_true,decide_eq_true_eq]at a
 have:=a.2 (at' R (i:Int)) (by rw[kF b];exact List.getElem_mem b)
 exact⟨this.1.1,this.1.2,fun s d=>this.2 s d⟩
theorem XN (a:wO nv R=true):R.length<=20:=by
 simp only[wO,Bool.and_eq_true,decide_eq_true_eq]at a
 exact a.1
theorem Uk (f:VG g) (hc:pK g nv c) (h:v<g.2.length) (b:p.2.2.map uX=Bi R) (d:wO nv R=true) {i:Nat} (a:i<R.length):jS 1000 (p,g,gr,eO g) c (v:Int) (i:Int)=some (nz (uK (p,g,gr,eO g) c v (at' R (i:Int)).1)):=by
 have j:=EU b
 have e:(at' p.2.2 (i:Int)).2.1.2=(at' R (i:Int)).1.ts:=congrArg Prod.fst (Qq b a)
 unfold jS
 dsimp only
 rw[cP (by omega),e]
 rw[bA (show fH 1000 _ c (v:Int) _=_ from NJ (S:=(p,g,gr,eO g)) rfl f hc h (Qx d a).1)]
 rfl
theorem Qy (hV:VG g) (hc:pK g nv c) (hv:v<g.2.length) (hz:p.2.2.map uX=Bi R) (hR:wO nv R=true) (tab:List (List (Int×Int))):eI 1000 (p,(p,g,gr,eO g),tab) c (v:Int)=some (sF (p,g,gr,eO g) R c v):=by
 have hl:=EU hz
 have h20:=XN hR
 let l:=R.map fun r=>uK (p,g,gr,eO g) c v r.1
 have hll:l.length=R.length:=by simp[l]
 have hat:∀i,i<R.length->at' l (i:Int)=uK (p,g,gr,eO g) c v (at' R (i:Int)).1:=fun i hi=>by
  rw[kF (by omega),kF hi];simp[l]
 have stp:∀(k:Nat) ag,k<R.length->jP 1000 (p,(p,g,gr,eO g),tab) c (v:Int) (k:Int) ag=if nz (at' l (k:Int))=true then some (k:Int)else ag (((k+1:Nat):Int)):=by
  intro k ag hk
  unfold jP
  dsimp only
  rw[if_pos (by omega),bA (show jS 1000 _ c (v:Int) (k:Int)=_ from Uk hV hc hv hz hR hk),hat k hk,dO (by omega)]
 unfold eI sF
 by_cases hx:∃i,i<R.length∧at' l (i:Int)≠0
 ·obtain⟨i,hi,h0⟩:=hx
  obtain⟨m,h1,h2,h3⟩:=JX (p:=fun i=>at' l (i:Int)≠0) i h0
  have h3:∀j,j<m->at' l (j:Int)=0:=fun j hj=>Decidable.not_not.1 (h3 j hj)
  rw[show Bm _=(m:Int)from Ac (l:=l) (by omega) h2 h3]
  exact dV (K:=some (m:Int)) m (fun k=>(k:Int)) (fun k ag hk=>by rw[stp k ag (by omega),if_neg (by simp[nz,h3 k hk])]) (fun ag=>by rw[stp m ag (by omega),if_pos (by simpa [nz]using h2)]) 1000 (by omega)
 ·have hx:∀j,j<l.length->at' l (j:Int)=0:=fun j hj=>Decidable.not_not.1 fun e=>hx ⟨j,by omega,e⟩
  rw[show Bm _=(-1:Int)from Ab (l:=l) hx]
  exact dV (K:=some (-1)) R.length (fun k=>(k:Int)) (fun k ag hk=>by rw[stp k ag hk,if_neg (by simp[nz,hx k (by omega)])]) (fun ag=>by
   unfold jP mP
   dsimp only
   rw[if_neg (by omega)]) 1000 (by omega)
theorem Cs (S:AE) (R:List RL) (c:List (List Int)) (v:Nat):sF S R c v = -1∨∃i:Nat,sF S R c v=(i:Int)∧i<R.length∧uK S c v (at' R (i:Int)).1≠0:=by
 let l:=R.map fun r=>uK S c v r.1
 by_cases h:∃i,i<l.length∧at' l (i:Int)≠0
 ·obtain⟨i,n,k⟩:=h
  obtain⟨m,o,f,a⟩:=JX (p:=fun i=>at' l (i:Int)≠0) i k
  have a:∀j,j<m->at' l (j:Int)=0:=fun j b=>Decidable.not_not.1 (a j b)
  have d:m<R.length:=by simp[l]at n;omega
  refine .inr ⟨m,Ac (l:=l) (by omega) f a,d,?_⟩
  have:at' l (m:Int)=uK S c v (at' R (m:Int)).1:=by rw[kF (by simpa [l]using d),kF d];simp[l]
  rw[<-this];exact f
 ·exact .inl (Ab (l:=l) fun j b=>Decidable.not_not.1 fun e=>h ⟨j,b,e⟩)
theorem OW {S:AE} {R:List RL} {c:List (List Int)} {v:Nat}:sF S R c v = -1↔∀i:Nat,i<R.length->uK S c v (at' R (i:Int)).1=0:=by
 let l:=R.map fun r=>uK S c v r.1
 have hat:∀i,i<R.length->at' l (i:Int)=uK S c v (at' R (i:Int)).1:=fun i hi=>by rw[kF (by simpa [l]using hi),kF hi];simp[l]
 constructor
 ·intro h i hi
  refine Decidable.not_not.1 fun e=> ?_
  obtain⟨m,h1,h2,h3⟩:=JX (p:=fun i=>at' l (i:Int)≠0) i (by rw[hat i hi];exact e)
  have h3:∀j,j<m->at' l (j:Int)=0:=fun j hj=>Decidable.not_not.1 (h3 j hj)
  have:sF S R c v=(m:Int):=Ac (l:=l) (by simp[l];omega) h2 h3
  omega
 ·intro h
  exact Ab (l:=l) fun j hj=>by rw[hat j (by simpa [l]using hj)];exact h j (by simpa [l]using hj)
theorem Ie (hV:VG g) (hc:pK g nv c) (hz:p.2.2.map uX=Bi R) (hR:wO nv R=true) {tab:List (List (Int×Int))} (ht:tab.length=g.2.length):bW 1000 (p,(p,g,gr,eO g),tab) c=some ((Yh (p,g,gr,eO g) R c:Nat):Int):=by
 have h24:=hV.n24
 unfold bW yP
 let q:Nat->Bool:=fun v=>decide (0<=sF (p,g,gr,eO g) R c v)
 have:=dV (step:=qK (tab.length:Int) (fun y0=>jL 1000 y0 (p,(p,g,gr,eO g),tab) c)) (K:=some ((j_ q g.2.length:Nat):Int)) g.2.length (fun k=>(((j_ q k:Nat):Int),(k:Int))) (fun k ag hk=>by
  have hm:=Af q (k:=k) (by omega)
  unfold qK s_ jL
  dsimp only
  rw[if_pos (by omega),bA (show Option.bind (eI 1000 _ c (k:Int)) _=some (q k) by rw[bA (show eI 1000 _ c (k:Int)=_ from Qy hV hc hk hz hR tab)]),dO (by omega)]
  cases hq:q k with
  |true=>
   rw[if_pos rfl,cP (by omega),FA hm (by omega)]
   simp only[j_,hq,if_true]
  |false=>
   rw[if_neg (by decide)]
   simp only[j_,hq];rfl) (fun ag=>by
  unfold qK xE
  dsimp only
  rw[if_neg (by omega)]) 1000 (by omega)
 rw[bA (show bJ _ 1000 ((0:Int),(0:Int))=_ from this)]
 rfl
end
end
section
theorem TC (f:Nat) (k:Int) (b:eK) (x:Int):vA f k b x=some (FC k b x):=by
 unfold vA tJ FC
 by_cases a:b.1<=x
 ·by_cases c:x<=b.2
  ·simp only[a,c,and_self,if_true,decide_true]
  ·simp only[a,c,and_false,if_true,if_false,decide_false,Bool.false_eq_true]
   split
   ·rfl
   ·split<;>rfl
 ·simp only[a,false_and,if_false,Bool.false_eq_true]
  split
  ·rfl
  ·split<;>rfl
theorem Nt {S:AE} {vars:List Dg} {c:aT} {v:Nat} (l:List (Nat×E)) (a:aL):(l.foldl (Sb S vars c v) a).length=a.length:=by
 induction l generalizing a with
 |nil=>rfl
 |cons s l b=>rw[List.foldl_cons,b];simp[Sb]
theorem Ka {S:AE} {vars:List Dg} {R:List RL} {c:aT} {v:Nat} {i:Int}:(yC S vars R c v i).length=(at' c (v:Int)).length:=Nt _ _
section
variable {p:vZ} {g:GR} {gr:Int} {R:List RL} {c:List (List Int)} {v:Nat}
theorem XE (z:VG g) (I:Bc g p.2.1) (hc:pK g p.2.1.length c) (w:v<g.2.length) (D:p.2.2.map uX=Bi R) (G:wO p.2.1.length R=true) {i:Nat} (A:i<R.length):
  kJ 1000 (p,(p,g,gr,eO g),zQ g p.2.1) c (v:Int) (i:Int)=some (yC (p,g,gr,eO g) p.2.1 R c v (i:Int)):=by
 have F:=z.n24
 have H:=hc.len
 have l:=hc.row v w
 have M:=I.len
 have N:=EU D
 have o:=Qq D A
 obtain⟨-,m,d⟩:=Qx G A
 have C:(zQ g p.2.1).length=g.2.length:=by simp[zQ]
 have u:at' (zQ g p.2.1) (v:Int)=Dj g p.2.1 v:=zE _ w
 have J:(Dj g p.2.1 v).length=p.2.1.length:=by simp[Dj]
 have x:(at' p.2.2 (i:Int)).2.2.2.map (fun s=>(s.1,s.2.2))=(at' R (i:Int)).2.map fun s=>((s.1:Int),s.2.ts):=congrArg Prod.snd o
 have n:(at' p.2.2 (i:Int)).2.2.2.length=(at' R (i:Int)).2.length:=by simpa using congrArg List.length x
 unfold kJ
 dsimp only
 rw[cP (by omega),cP (by simp;omega),cP (by omega),List.nil_append]
 unfold yC
 let a:=(at' R (i:Int)).2
 have:=dV (step:=jO 1000 (p,(p,g,gr,eO g),zQ g p.2.1) c (v:Int) (i:Int)) (K:=some (a.foldl (Sb (p,g,gr,eO g) p.2.1 c v) (at' c (v:Int)))) a.length (fun k=>((k:Int),(a.take k).foldl (Sb (p,g,gr,eO g) p.2.1 c v) (at' c (v:Int)))) (fun k E e=>by
  have j:k<(at' p.2.2 (i:Int)).2.2.2.length:=by rw[n];exact e
  have y:((at' (at' p.2.2 (i:Int)).2.2.2 (k:Int)).1,(at' (at' p.2.2 (i:Int)).2.2.2 (k:Int)).2.2)=(((at' a (k:Int)).1:Int),(at' a (k:Int)).2.ts):=by
   have:=congrArg (fun q=>q[k]?) x
   simp only[List.getElem?_map,List.getElem?_eq_getElem j,List.getElem?_eq_getElem (show k<(at' R (i:Int)).2.length from e),Option.map_some,Option.some.injEq]at this
   rw[kF j,kF e];exact this
  have f:=congrArg Prod.fst y
  have h:=congrArg Prod.snd y
  dsimp only at f h
  obtain⟨r,t⟩:=d (at' a (k:Int)) (by rw[kF e];exact List.getElem_mem e)
  have B:((a.take k).foldl (Sb (p,g,gr,eO g) p.2.1 c v) (at' c (v:Int))).length=p.2.1.length:=by rw[Nt,l]
  have b:at' (Dj g p.2.1 v) ((at' a (k:Int)).1:Int)=Dt g p.2.1 v (at' a (k:Int)).1:=zE _ r
  have L:a.length<=20:=m
  unfold jO
  dsimp only
  rw[if_pos (by omega),cP (by omega),f,h,bA (show fH 1000 _ c (v:Int) _=_ from NJ (S:=(p,g,gr,eO g)) rfl z hc w t),cP (by omega),cP (by omega),u,cP (by omega),b,bA (TC 1000 _ _ _),cP (by omega),dO (by omega),Int.toNat_natCast,AS e,List.foldl_append]
  rfl) (fun E=>by
  unfold jO mO
  dsimp only
  rw[if_neg (by show¬(a.length:Int)<_;rw[n];exact Int.lt_irrefl _),List.take_length]) 1000 (by show(at' R (i:Int)).2.length<1000;omega)
 exact this
theorem QC (l:VG g) (r:Bc g p.2.1) (hc:pK g p.2.1.length c) (s:p.2.2.map uX=Bi R) (n:wO p.2.1.length R=true) {t:Nat} (b:t<4294967296) (A:∀v,t.testBit v=true->0<=sF (p,g,gr,eO g) R c v):
  eJ 1000 (p,(p,g,gr,eO g),zQ g p.2.1) c (t:Int)=some (gJ (p,g,gr,eO g) p.2.1 R c t):=by
 have w:=l.n24
 have y:=hc.len
 have B:=r.len
 unfold eJ
 rw[bA (KY c (by omega) (fun v C=>by rw[hc.row v (by omega)];omega))]
 let f:Nat->List Int:=fun v=>if t.testBit v=true then yC (p,g,gr,eO g) p.2.1 R c v (sF (p,g,gr,eO g) R c v)else at' c (v:Int)
 let Q:Nat->List (List Int):=fun k=>(List.range k).map f++c.drop k
 have x:∀k,k<=c.length->(Q k).length=c.length:=fun k a=>by simp[Q];omega
 have j:∀k,k<c.length->(Q k).set k (f k)=Q (k+1):=fun k a=>by
  show((List.range k).map f++c.drop k).set k (f k)=(List.range (k+1)).map f++c.drop (k+1)
  rw[List.set_append_right _ _ (by simp),List.length_map,List.length_range,Nat.sub_self,List.drop_eq_getElem_cons a,List.set_cons_zero,List.range_succ,List.map_append,List.map_singleton,List.append_assoc]
  rfl
 have d:∀k,k<c.length->f k=at' c (k:Int)->Q k=Q (k+1):=fun k a z=>by
  show(List.range k).map f++c.drop k=(List.range (k+1)).map f++c.drop (k+1)
  rw[List.range_succ,List.drop_eq_getElem_cons a,List.map_append,List.map_singleton,z,kF a]
  simp
 rw[show c=Q 0 by simp[Q]]
 refine dV (step:=gS 1000 (p,(p,g,gr,eO g),zQ g p.2.1) (Q 0) (t:Int)) (K:=some (gJ (p,g,gr,eO g) p.2.1 R (Q 0) t)) c.length (fun k=>((k:Int),Q k)) (fun k u a=> ?_) (fun u=> ?_) 1000 (by omega)
 ·rw[show Q 0=c by simp[Q]]
  unfold gS jQ
  dsimp only
  rw[if_pos (by omega),cP (by omega),dO (by omega)]
  by_cases h:t.testBit k=true
  ·obtain⟨i,o,m,_⟩:=(Cs (p,g,gr,eO g) R c k).resolve_left (fun e=>by have:=A k h;omega)
   rw[if_pos ((Le (by omega) b).2 h),bA (show eI 1000 _ c (k:Int)=_ from Qy l hc (by omega) s n _),o,bA (show kJ 1000 _ c (k:Int) (i:Int)=_ from XE l r hc (by omega) s n m),cP (by rw[x k (by omega)];omega),Int.toNat_natCast]
   have:yC (p,g,gr,eO g) p.2.1 R c k (i:Int)=f k:=by simp only[f];rw[if_pos h,o]
   rw[this,j k a]
  ·rw[if_neg (fun q=>h ((Le (by omega) b).1 q)),d k a (by simp only[f];rw[if_neg h])]
 ·rw[show Q 0=c by simp[Q]]
  unfold gS mQ
  dsimp only
  rw[if_neg (by omega)]
  simp[Q,gJ,f]
theorem Kh {S:AE} {vars:List Dg} {t:Nat}:(gJ S vars R c t).length=c.length:=by simp[gJ]
theorem Fb {S:AE} {vars:List Dg} {t:Nat} (a:v<c.length):at' (gJ S vars R c t) (v:Int)=if t.testBit v=true then yC S vars R c v (sF S R c v)else at' c (v:Int):=zE _ a
theorem pK.step {S:AE} {vars:List Dg} {t:Nat} {b:Nat} {g:GR} (hc:pK g b c):pK g b (gJ S vars R c t):=⟨by rw[Kh,hc.len],fun v a=>by
 rw[Fb (by rw[hc.len];exact a)]
 split
 ·rw[Ka,hc.row v a]
 ·exact hc.row v a⟩
end
end
end Go.Proofs.YtjlbcgddhnjcjaaGreatDoor
end
section
namespace Go.Proofs.YtjlbcgddhnjcjaaGreatDoor
open Go.Sx
section
def oG  (a:Unit):Option (Bool):=
 some (true)
def oH (p0:aL) (a:Int) (b:(Int)->Option (Bool)):Option (Bool):=
 if a<(List.length p0:Int)then(ck (0<=a∧a<(List.length p0:Int)) (if(uS .u32 (at' p0 a) (16777215:Int))≠(0:Int)then(some (false))else(b (wI .i64 (a+(1:Int))))))else(oG  (()))
def jZ (U:Nat) (p0:aL):Option (Bool):=
 bJ (oH p0) U (0:Int)
theorem PI:aP Tryz.prog 188:=Tryz.call188
theorem zL (U:Nat) {p0:aL} (v0:Value) (r:Bool) (h:jZ U p0=some r):
  aU Tryz.prog 188 #[v0] [Sl pI v0 p0] (fun x:Unit=>vB (r)) (fun x l=>l) (fun _ l=>l):=by
 refine aU.of Tryz.func188 rfl Tryz.ntmps188 rfl fun c=>?_
 unfold jZ at h
 refine sqR<|qkAsg rfl<|dtN<|aG<|midU (fun a1=>oG  a1=some r) (fun a1 b2=>[]) (fun a1 b2=>[]) ?_ ?_
 ·refine sqR<|qkMove rfl<|qkLen (aB.fact 0 rfl) rfl<|qkMove rfl<|dtN<|aN<|loopL (oH p0) (fun a5 b6=>[(5,v0),(6,vI (List.length p0:Int)),(7,vI (a5))]) (fun a5 b6=>[]) (0:Int) () h SF (aR.refl _) ?_
  intro k7 a5 b6 h
  refine sqR<|qkLss rfl<|dtN<|aG ?_
  refine eT h rfl (fun h=>?_) fun h=>?_
  ·refine cJ<|aG<|aN<|sqR<|ckE h fun j9 h=>aA (a_ rfl rfl (aB.fact 0 rfl) rfl rfl j9) rfl<|aA (bV rfl (aB.fact 0 rfl) rfl rfl rfl Am j9) rfl<|qkAsg rfl<|dtN<|sqR<|qkMove rfl<|aA (Cd rfl rfl) rfl<|qkNeq rfl<|dtN ?_
   refine eT h rfl (fun h=>?_) fun h=>?_
   ·refine sqR<|qkAsg rfl<|dtN<|aQ<|bQ<|aJ<|aJ<|bQ<|aJ ?_
    cases h
    exact lC rfl
   refine dQ<|inT<|aM<|qkAdd rfl<|qkMove rfl<|dtN ?_
   exact yX (wI .i64 (a5+(1:Int))) () h SF rfl
  refine fM ?_
  exact gR () (()) h SF rfl
 intro a1 b2 h
 unfold oG at h
 refine sqR<|qkAsg rfl<|dtN<|aQ ?_
 cases h
 exact lC rfl
end
section
def lP  (a:Bool):Option (Bool):=
 some (a)
def iH (U:Nat) (p0:DJ) (b:Bool):Option (Bool):=
 if b=true then(some (false))else(if(wI .i64 (p0.2.2.1+(1:Int)))<p0.2.2.2.1 then(some (false))else(if p0.1<=p0.2.1 then(if p0.2.1<=(wI .i64 ((24:Int)*p0.1))then(Option.bind (jZ U ([p0.2.2.2.2])) fun a=>(lP  (a)))else(lP  (false)))else(lP  (false))))
def qA (U:Nat) (p0:DJ):Option (Bool):=
 if p0.1<(0:Int)then(iH U p0 (true))else(if(4096:Int)<p0.1 then(iH U p0 (true))else(if p0.2.2.1<(0:Int)then(iH U p0 (true))else(if p0.2.2.2.1<p0.2.2.1 then(iH U p0 (true))else(iH U p0 (decide (p0.1<p0.2.2.2.1))))))
theorem WH:aP Tryz.prog 187:=Tryz.call187
theorem GK (U:Nat) {p0:DJ} (r:Bool) (h:qA U p0=some r):
  aU Tryz.prog 187 #[Value.agg #[vI (p0.1),vI (p0.2.1),vI (p0.2.2.1),vI (p0.2.2.2.1),vU (p0.2.2.2.2)]] [] (fun x:Unit=>vB (r)) (fun x l=>l) (fun _ l=>l):=by
 refine aU.of Tryz.func187 rfl Tryz.ntmps187 rfl fun c=>?_
 refine sqR<|aF (aI.box (cs:=[vI (p0.1),vI (p0.2.1),vI (p0.2.2.1),vI (p0.2.2.2.1),vU (p0.2.2.2.2)]) rfl rfl) rfl fun b1=>qkAsg rfl<|dtN<|aG<|aG<|midU (fun a3=>iH U p0 a3=some r) (fun a3 b4=>[(1,vP b1),(29,vB (a3))]) (fun a3 b4=>[bL b1 [vI (p0.1),vI (p0.2.1),vI (p0.2.2.1),vI (p0.2.2.2.1),vU (p0.2.2.2.2)] 61]) ?_ ?_
 ·refine aM<|qkFld rfl<|qkLd 0 rfl<|qkLss rfl<|qkMove rfl ?_
  refine BS h rfl (fun _ h=>?_) fun _ h=>?_
  ·refine gdSkip rfl<|gdSkip rfl<|gdSkip rfl<|qkPkT rfl<|qkMove rfl<|gdSkip rfl<|gdSkip rfl<|gdSkip rfl<|qkPkT rfl<|qkMove rfl<|gdSkip rfl<|gdSkip rfl<|gdSkip rfl<|gdSkip rfl<|gdSkip rfl<|qkPkT rfl<|qkMove rfl<|gdSkip rfl<|gdSkip rfl<|gdSkip rfl<|gdSkip rfl<|gdSkip rfl<|qkPkT rfl<|dtN ?_
   exact gR (true) () h SF rfl
  refine aS rfl (cZ rfl rfl rfl rfl rfl) rfl<|aS rfl (eF 0 rfl rfl rfl rfl rfl) rfl<|aS rfl (vR rfl rfl) rfl<|qkPkF rfl<|qkMove rfl ?_
  refine BS h rfl (fun _ h=>?_) fun _ h=>?_
  ·refine gdSkip rfl<|gdSkip rfl<|gdSkip rfl<|qkPkT rfl<|qkMove rfl<|gdSkip rfl<|gdSkip rfl<|gdSkip rfl<|gdSkip rfl<|gdSkip rfl<|qkPkT rfl<|qkMove rfl<|gdSkip rfl<|gdSkip rfl<|gdSkip rfl<|gdSkip rfl<|gdSkip rfl<|qkPkT rfl<|dtN ?_
   exact gR (true) () h SF rfl
  refine aS rfl (cZ rfl rfl rfl rfl rfl) rfl<|aS rfl (eF 0 rfl rfl rfl rfl rfl) rfl<|aS rfl (Cg rfl rfl) rfl<|qkPkF rfl<|qkMove rfl ?_
  refine BS h rfl (fun _ h=>?_) fun _ h=>?_
  ·refine gdSkip rfl<|gdSkip rfl<|gdSkip rfl<|gdSkip rfl<|gdSkip rfl<|qkPkT rfl<|qkMove rfl<|gdSkip rfl<|gdSkip rfl<|gdSkip rfl<|gdSkip rfl<|gdSkip rfl<|qkPkT rfl<|dtN ?_
   exact gR (true) () h SF rfl
  refine aS rfl (cZ rfl rfl rfl rfl rfl) rfl<|aS rfl (eF 0 rfl rfl rfl rfl rfl) rfl<|aS rfl (cZ rfl rfl rfl rfl rfl) rfl<|aS rfl (eF 0 rfl rfl rfl rfl rfl) rfl<|aS rfl (vR rfl rfl) rfl<|qkPkF rfl<|qkMove rfl ?_
  refine BS h rfl (fun _ h=>?_) fun _ h=>?_
  ·refine gdSkip rfl<|gdSkip rfl<|gdSkip rfl<|gdSkip rfl<|gdSkip rfl<|qkPkT rfl<|dtN ?_
   exact gR (true) () h SF rfl
  refine aS rfl (cZ rfl rfl rfl rfl rfl) rfl<|aS rfl (eF 0 rfl rfl rfl rfl rfl) rfl<|aS rfl (cZ rfl rfl rfl rfl rfl) rfl<|aS rfl (eF 0 rfl rfl rfl rfl rfl) rfl<|aS rfl (vR rfl rfl) rfl<|qkPkF rfl<|dtN ?_
  exact gR (decide (p0.1<p0.2.2.2.1)) () h SF rfl
 intro a3 b4 h
 refine AG h rfl (fun _ h=>?_) fun _ h=>?_
 ·refine sqR<|qkAsg rfl<|dtN<|aQ<|aJ ?_
  cases h
  exact wN rfl
 refine cJ<|aG<|sqR<|qkFld rfl<|qkLd 0 rfl<|qkFld rfl<|qkLd 0 rfl<|qkAdd rfl<|aA (vR rfl rfl) rfl<|dtN ?_
 refine eT h rfl (fun h=>?_) fun h=>?_
 ·refine sqR<|qkAsg rfl<|dtN<|aQ<|aJ ?_
  cases h
  exact wN rfl
 refine cJ<|aG<|midU (fun a8=>lP  a8=some r) (fun a8 b9=>[(2,vB (a8))]) (fun a8 b9=>[]) ?_ ?_
 ·refine aM<|qkFld rfl<|qkLd 0 rfl<|qkFld rfl<|qkLd 0 rfl<|aA (zY rfl rfl) rfl<|qkMove rfl ?_
  refine BS h rfl (fun _ h=>?_) fun _ h=>?_
  ·refine aS rfl (cZ rfl rfl rfl rfl rfl) rfl<|aS rfl (eF 0 rfl rfl rfl rfl rfl) rfl<|aS rfl (cZ rfl rfl rfl rfl rfl) rfl<|aS rfl (eF 0 rfl rfl rfl rfl rfl) rfl<|aS rfl (Be rfl rfl) rfl<|aS rfl (zY rfl rfl) rfl<|qkPkT rfl<|qkMove rfl ?_
   refine BS h rfl (fun _ h=>?_) fun _ h=>?_
   ·refine aS rfl (cZ rfl rfl rfl rfl rfl) rfl<|aS rfl (eF 0 rfl rfl rfl rfl rfl) rfl<|tF rfl (bU (e:=gK) ([p0.2.2.2.2]) [(0,vU (p0.2.2.2.2))] rfl rfl rfl rfl (iJ (vU (p0.2.2.2.2)) rfl) rfl rfl rfl) rfl fun u12=>bnE h fun r13 w14 h=>tF rfl (aI.callQ PI (zL U u12 r13 w14) rfl (aD.cons (aO (aB.res 0 rfl) fJ) .nil)) rfl fun x15=>qkPkT rfl<|qkAsg rfl<|dtN ?_
    exact bT (r13) () h SF .nil (aD.refl _ _)
   refine gdSkip rfl<|gdSkip rfl<|gdSkip rfl<|gdSkip rfl<|qkPkF rfl<|qkAsg rfl<|dtN ?_
   exact bT (false) () h SF .nil (aD.refl _ _)
  refine gdSkip rfl<|gdSkip rfl<|gdSkip rfl<|gdSkip rfl<|gdSkip rfl<|gdSkip rfl<|qkPkF rfl<|qkMove rfl<|gdSkip rfl<|gdSkip rfl<|gdSkip rfl<|gdSkip rfl<|qkPkF rfl<|qkAsg rfl<|dtN ?_
  exact bT (false) () h SF .nil (aD.refl _ _)
 intro a8 b9 h
 unfold lP at h
 refine aQ ?_
 cases h
 exact lC rfl
end
section
def pP (U:Nat) (p0:Int):Option (Int):=
 ck (0<=(24:Int)) (ck (0<=(nZ .u32 p0 (24:Int))∧(nZ .u32 p0 (24:Int))<(List.length VL:Int)) (ck (0<=(16:Int)) (ck (0<=(cD .u32 (nZ .u32 p0 (16:Int)) (255:Int))∧(cD .u32 (nZ .u32 p0 (16:Int)) (255:Int))<(List.length VL:Int)) (ck (0<=(8:Int)) (ck (0<=(cD .u32 (nZ .u32 p0 (8:Int)) (255:Int))∧(cD .u32 (nZ .u32 p0 (8:Int)) (255:Int))<(List.length VL:Int)) (ck (0<=(cD .u32 p0 (255:Int))∧(cD .u32 p0 (255:Int))<(List.length VL:Int)) (some (wI .i64 (wI .u8 ((wI .u8 ((wI .u8 ((at' VL (nZ .u32 p0 (24:Int)))+(at' VL (cD .u32 (nZ .u32 p0 (16:Int)) (255:Int)))))+(at' VL (cD .u32 (nZ .u32 p0 (8:Int)) (255:Int)))))+(at' VL (cD .u32 p0 (255:Int)))))))))))))
theorem WI:aP Tryz.prog 189:=Tryz.call189
theorem Eg (U:Nat) {p0:Int} (r:Int) (h:pP U p0=some r):
  aU Tryz.prog 189 #[vU (p0)] [] (fun x:Unit=>vI (r)) (fun x l=>l) (fun _ l=>l):=by
 refine aU.of Tryz.func189 rfl Tryz.ntmps189 rfl fun c=>?_
 refine sqR<|qkAsg rfl<|dtN<|aG ?_
 refine JR.start [0,1,3,0,8,24,56,127,0,256,768,1792,4095,0,8192,24576,65535,131071,262143] 16 mixedOrders (by decide +kernel) ?_
 refine JR.open (by exact rfl) ?_
 refine jkMove rfl<|ckE h fun a h=>jqN rfl (Ez rfl rfl a)<|ckE h fun b h=>jqN rfl (Bd rfl rfl rfl KV b)<|jkMove rfl<|ckE h fun d h=>jqN rfl (Ez rfl rfl d)<|jqN rfl (JC rfl rfl)<|ckE h fun e h=>jqN rfl (Bd rfl rfl rfl KV e)<|jqN rfl (wB rfl rfl)<|jkMove rfl<|ckE h fun f h=>jqN rfl (Ez rfl rfl f)<|jqN rfl (JC rfl rfl)<|ckE h fun g h=>jqN rfl (Bd rfl rfl rfl KV g)<|jqN rfl (wB rfl rfl)<|jkMove rfl<|jqN rfl (JC rfl rfl)<|ckE h fun i h=>jqN rfl (Bd rfl rfl rfl KV i)<|bD 16 rfl rfl<|qkAdd rfl<|aA (HG rfl rfl rfl) rfl<|qkAsg rfl<|dtN<|aQ ?_
 cases h
 exact lC rfl
end
section
def q_ (p0:DJ) (b:Int) (a:eK):Option ((Int×Int×Int×Int×Int)×Int):=
 some ((((wI .i64 (p0.1+(1:Int))),(wI .i64 (p0.2.1+b)),a.1,(wI .i64 (p0.2.2.1+(1:Int))),a.2)),(0:Int))
def qZ (U:Nat) (p0:DJ) (p1:Int) (p2:Int) (b:Bool):Option ((Int×Int×Int×Int×Int)×Int):=
 if b=true then(some ((((0:Int),(0:Int),(0:Int),(0:Int),(0:Int))),(11:Int)))else(if p0.1=(4096:Int)then(some ((((0:Int),(0:Int),(0:Int),(0:Int),(0:Int))),(3:Int)))else(Option.bind (pP U p1) fun a=>(if(cD .u32 (uS .u32 p0.2.2.2.2 p1) p2)=(0:Int)then(q_ p0 a ((wI .i64 (p0.2.2.1+(1:Int))),p2))else(q_ p0 a (p0.2.2.1,(cD .u32 (uS .u32 p0.2.2.2.2 p1) p2))))))
def gW (U:Nat) (p0:DJ) (p1:Int) (p2:Int):Option ((Int×Int×Int×Int×Int)×Int):=
 Option.bind (qA U ((p0.1,p0.2.1,p0.2.2.1,p0.2.2.2.1,p0.2.2.2.2))) fun r3=>(if(!r3)=true then(some ((((0:Int),(0:Int),(0:Int),(0:Int),(0:Int))),(7:Int)))else(if p1=(0:Int)then(qZ U p0 p1 p2 (true))else(Option.bind (jZ U ([p1,p2])) fun r22=>(qZ U p0 p1 p2 ((!r22))))))
theorem PH:aP Tryz.prog 151:=Tryz.call151
theorem DF (U:Nat) {p0:DJ} {p1:Int} {p2:Int} (r:(Int×Int×Int×Int×Int)×Int) (h:gW U p0 p1 p2=some r):
  aU Tryz.prog 151 #[Value.agg #[vI (p0.1),vI (p0.2.1),vI (p0.2.2.1),vI (p0.2.2.2.1),vU (p0.2.2.2.2)],vU (p1),vU (p2)] [] (fun x:Unit=>Value.tuple #[Value.agg #[vI (r.1.1),vI (r.1.2.1),vI (r.1.2.2.1),vI (r.1.2.2.2.1),vU (r.1.2.2.2.2)],vI (r.2)]) (fun x l=>l) (fun _ l=>l):=by
 refine aU.of Tryz.func151 rfl Tryz.ntmps151 rfl fun c=>?_
 refine sqR<|aF (aI.box (cs:=[vI (p0.1),vI (p0.2.1),vI (p0.2.2.1),vI (p0.2.2.2.1),vU (p0.2.2.2.2)]) rfl rfl) rfl fun b1=>aF (aI.alloc (cs:=XX) rfl rfl) rfl fun b2=>qkAsg rfl<|dtN<|aG<|sqR<|qkLdA 1 rfl<|bnE h fun r3 w4 h=>aF (aI.callQ WH (GK U  r3 w4) rfl .nil) rfl fun x5=>aA (qX rfl) rfl<|dtN ?_
 refine AG h rfl (fun _ h=>?_) fun _ h=>?_
 ·refine sqR ?_
  refine aA (DU (r:=Value.agg #[vI (0:Int),vI (0:Int),vI (0:Int),vI (0:Int),vU (0:Int)]) (by intro w;simp[Instr.build,Instr.fill,c_,cS,cF,dA,dB,cT,eB])) rfl ?_
  refine bE 0 (vs:=XX) rfl rfl rfl rfl rfl rfl<|qkAsg rfl<|dtN<|aQ<|aJ ?_
  cases h
  exact iO () rfl rfl (RV.cell 0 rfl rfl rfl rfl) (RV.tmp rfl) .nil aD.nil
 refine cJ<|aG<|aG<|midU (fun a8=>qZ U p0 p1 p2 a8=some r) (fun a8 b9=>[(1,vU (p1)),(2,vU (p2)),(3,vP b1),(6,vP b2),(20,vB (a8))]) (fun a8 b9=>[bL b2 XX 61,bL b1 [vI (p0.1),vI (p0.2.1),vI (p0.2.2.1),vI (p0.2.2.2.1),vU (p0.2.2.2.2)] 61]) ?_ ?_
 ·refine aM<|qkMove rfl<|qkEql rfl<|qkMove rfl ?_
  refine BS h rfl (fun _ h=>?_) fun _ h=>?_
  ·refine gdSkip rfl<|gdSkip rfl<|gdSkip rfl<|gdSkip rfl<|gdSkip rfl<|qkPkT rfl<|dtN ?_
   exact gR (true) () h SF rfl
  refine gyMove rfl<|gyMove rfl<|tF rfl (bU (e:=gK) ([p1,p2]) [(0,vU (p1)),(1,vU (p2))] rfl rfl rfl rfl (Uc (vU (p1)) (vU (p2)) rfl rfl) rfl rfl rfl) rfl fun u21=>bnE h fun r22 w23 h=>tF rfl (aI.callQ PI (zL U u21 r22 w23) rfl (aD.cons (aO (aB.res 0 rfl) fJ) .nil)) rfl fun x24=>aS rfl (qX rfl) rfl<|qkPkF rfl<|dtN ?_
  exact bT ((!r22)) () h SF (aR.ix [1,2] rfl rfl) (aD.refl _ _)
 intro a8 b9 h
 refine AG h rfl (fun _ h=>?_) fun _ h=>?_
 ·refine sqR ?_
  refine aA (DU (r:=Value.agg #[vI (0:Int),vI (0:Int),vI (0:Int),vI (0:Int),vU (0:Int)]) (by intro w;simp[Instr.build,Instr.fill,c_,cS,cF,dA,dB,cT,eB])) rfl ?_
  refine bE 0 (vs:=XX) rfl rfl rfl rfl rfl rfl<|qkAsg rfl<|dtN<|aQ<|aJ ?_
  cases h
  exact iO () rfl rfl (RV.cell 0 rfl rfl rfl rfl) (RV.tmp rfl) .nil aD.nil
 refine cJ<|aG<|sqR<|qkFld rfl<|qkLd 1 rfl<|qkEql rfl<|dtN ?_
 refine eT h rfl (fun h=>?_) fun h=>?_
 ·refine sqR ?_
  refine aA (DU (r:=Value.agg #[vI (0:Int),vI (0:Int),vI (0:Int),vI (0:Int),vU (0:Int)]) (by intro w;simp[Instr.build,Instr.fill,c_,cS,cF,dA,dB,cT,eB])) rfl ?_
  refine bE 0 (vs:=XX) rfl rfl rfl rfl rfl rfl<|qkAsg rfl<|dtN<|aQ<|aJ ?_
  cases h
  exact iO () rfl rfl (RV.cell 0 rfl rfl rfl rfl) (RV.tmp rfl) .nil aD.nil
 refine cJ<|sqR<|qkFld rfl<|qkLd 1 rfl<|qkAdd rfl<|qkFld rfl<|eP 1 rfl rfl rfl rfl rfl rfl<|dtN<|aG ?_
 refine JR.start [0,1,0,4,15,31,63] 4 mixedOrders (by decide +kernel) ?_
 refine JR.open (by exact rfl) ?_
 refine jkFld rfl<|jkLd 1 rfl<|jkMove rfl<|bnE h fun r12 w13 h=>JR.loud rfl rfl rfl (aI.callQ WI (Eg U  r12 w13) rfl .nil) rfl (fun x14=>(mW [([1],[])] rfl)) fun x14=>bD 4 rfl rfl<|qkAdd rfl<|qkFld rfl<|eP 1 rfl rfl rfl rfl rfl rfl<|dtN<|sqR<|qkFld rfl<|qkLd 1 rfl<|qkAdd rfl<|qkFld rfl<|eP 1 rfl rfl rfl rfl rfl rfl<|dtN<|sqR<|qkFld rfl<|qkLd 1 rfl<|qkMove rfl<|aA (Cd rfl rfl) rfl<|qkMove rfl<|qkAnd rfl<|qkFld rfl<|eP 1 rfl rfl rfl rfl rfl rfl<|dtN<|aG<|midU (fun a17=>q_ p0 r12 a17=some r) (fun a17 b18=>[(3,vP b1),(6,vP b2)]) (fun a17 b18=>[bL b2 XX 61,bL b1 [vI (wI .i64 (p0.1+(1:Int))),vI (wI .i64 (p0.2.1+r12)),vI (a17.1),vI (wI .i64 (p0.2.2.1+(1:Int))),vU (a17.2)] 61]) ?_ ?_
 ·refine sqR<|qkFld rfl<|qkLd 1 rfl<|qkEql rfl<|dtN ?_
  refine eT h rfl (fun h=>?_) fun h=>?_
  ·refine sqR<|qkFld rfl<|qkLd 1 rfl<|qkFld rfl<|eP 1 rfl rfl rfl rfl rfl rfl<|dtN<|aM<|qkMove rfl<|qkFld rfl<|eP 1 rfl rfl rfl rfl rfl rfl<|dtN ?_
   exact gR ((wI .i64 (p0.2.2.1+(1:Int))),p2) () h SF rfl
  refine cJ ?_
  exact gR (p0.2.2.1,(cD .u32 (uS .u32 p0.2.2.2.2 p1) p2)) () h SF rfl
 intro a17 b18 h
 unfold q_ at h
 refine sqR<|qkLdA 1 rfl<|bE 0 (vs:=[vI (wI .i64 (p0.1+(1:Int))),vI (wI .i64 (p0.2.1+r12)),vI (a17.1),vI (wI .i64 (p0.2.2.1+(1:Int))),vU (a17.2)]) rfl rfl rfl rfl rfl rfl<|qkAsg rfl<|dtN<|aQ ?_
 cases h
 exact iO () rfl rfl (RV.cell 0 rfl rfl rfl rfl) (RV.tmp rfl) .nil aD.nil
end
end Go.Proofs.YtjlbcgddhnjcjaaGreatDoor
end
section
namespace Go.Proofs.YtjlbcgddhnjcjaaGreatDoor
open Go Go.Sx
section
abbrev CT:=DJ
theorem Dy (l:aL) (h:l.length<=900):∃b,jZ 1000 l=some b:=by
 unfold jZ
 have:=wW (step:=oH l) (Q:=fun _:Bool=>True) (fun i:Int=>∃k:Nat,i=(k:Int)∧k<=l.length) (fun i=>l.length - i.toNat) (fun i f c a=>by
  obtain⟨k,rfl,g⟩:=c
  unfold oH oG
  by_cases e:k<l.length
  ·rw[if_pos (by omega),cP (by omega)]
   split
   ·exact⟨_,rfl,trivial⟩
   ·rw[dO (by omega)]
    exact a _ ⟨k+1,rfl,by omega⟩ (by omega)
  ·rw[if_neg (by omega)]
   exact⟨_,rfl,trivial⟩) 1000 0 ⟨0,rfl,by omega⟩ (by omega)
 obtain⟨b,d,_⟩:=this
 exact⟨b,d⟩
theorem KJ (k:CT):∃b,qA 1000 k=some b:=by
 obtain⟨q,hq⟩:=Dy [k.2.2.2.2] (by simp)
 have key:∀a,∃b,iH 1000 k a=some b:=by
  intro a
  unfold iH lP
  split
  ·exact⟨_,rfl⟩
  ·split
   ·exact⟨_,rfl⟩
   ·split
    ·split
     ·rw[bA hq];exact⟨_,rfl⟩
     ·exact⟨_,rfl⟩
    ·exact⟨_,rfl⟩
 unfold qA
 repeat' split
 all_goals exact key _
theorem RQ {t:Nat} (i:t<4294967296):∃n,pP 1000 (t:Int)=some n:=by
 have g:(List.length VL:Int)=256:=by decide +kernel
 have b:∀a:Nat,a<4294967296->0<=cD .u32 (a:Int) 255∧cD .u32 (a:Int) 255<256:=fun a f=>by
  rw[show(255:Int)=((255:Nat):Int)from rfl,Gk f (by omega)]
  have:a &&& 255<=255:=Nat.and_le_right
  omega
 have c:∀k:Nat,k<32->nZ .u32 (t:Int) (k:Int)=((t / 2^k:Nat):Int):=fun k h=>KO h
 have e:nZ .u32 (t:Int) 24=((t / 2^24:Nat):Int):=c 24 (by omega)
 have d:nZ .u32 (t:Int) 16=((t / 2^16:Nat):Int):=c 16 (by omega)
 have j:nZ .u32 (t:Int) 8=((t / 2^8:Nat):Int):=c 8 (by omega)
 unfold pP
 rw[g,e,d,j,cP (by decide),cP (by omega),cP (by decide),cP (b _ (by omega)),cP (by decide),cP (b _ (by omega)),cP (b _ i)]
 exact⟨_,rfl⟩
theorem Mt (k:CT) {t:Nat} (ht:t<4294967296) (e:Int):∃r,gW 1000 k (t:Int) e=some r:=by
 obtain⟨b,hb⟩:=KJ k
 obtain⟨q,hq⟩:=Dy [(t:Int),e] (by simp)
 obtain⟨n,hn⟩:=RQ ht
 have key:∀a,∃r,qZ 1000 k (t:Int) e a=some r:=by
  intro a
  unfold qZ q_
  split
  ·exact⟨_,rfl⟩
  ·split
   ·exact⟨_,rfl⟩
   ·rw[bA hn]
    split<;>exact⟨_,rfl⟩
 unfold gW
 rw[bA (show qA 1000 _=some b from hb)]
 split
 ·exact⟨_,rfl⟩
 ·split
  ·exact key _
  ·rw[bA hq];exact key _

def bH (p:vZ) (g:GR):AE:=(p,g,gQ g g.2.length,eO g)
end
section
def mV (S:AE) (R:List RL) (a:Nat) (c:aT):Nat:=Yh S R c &&& a
theorem Xb (S:AE) (R:List RL) (c:aT) (v:Nat):(Yh S R c).testBit v=(decide (v<S.2.1.2.length)&&decide (0<=sF S R c v)):=AL _ v _
theorem yL (S:AE) (R:List RL) (a:Nat) (c:aT) (v:Nat):(mV S R a c).testBit v=true↔v<S.2.1.2.length∧0<=sF S R c v∧a.testBit v=true:=by
 unfold mV
 rw[Nat.testBit_and,Xb,Bool.and_eq_true,Bool.and_eq_true,decide_eq_true_eq,decide_eq_true_eq,and_assoc]
theorem TQ {S:AE} (a:VG S.2.1) (R:List RL) (c:aT):Yh S R c<4294967296:=Af _ (by have:=a.n24;omega)
theorem TR (S:AE) (R:List RL) (a:Nat) (c:aT):Pp S.2.1 (mV S R a c):=fun i b=>((yL S R a c i).1 b).1
def As (ch:f_):aL:=ch.map fun t=>((t:Nat):Int)
end
end Go.Proofs.YtjlbcgddhnjcjaaGreatDoor
end
section
namespace Go.Proofs.YtjlbcgddhnjcjaaGreatDoor
open Go.Sx
section
def m_  (a:Bool):Option (Bool):=
 some (a)
def o_ (U:Nat) (p0:Int):Option (Bool):=
 if(1:Int)<=p0 then(m_  (decide (p0<=(4:Int))))else(m_  (false))
theorem Ws:aP Tryz.prog 102:=Tryz.call102
theorem IN (U:Nat) {p0:Int} (r:Bool) (h:o_ U p0=some r):
  aU Tryz.prog 102 #[vI (p0)] [] (fun x:Unit=>vB (r)) (fun x l=>l) (fun _ l=>l):=by
 refine aU.of Tryz.func102 rfl Tryz.ntmps102 rfl fun c=>?_
 refine sqR<|qkAsg rfl<|dtN<|aG<|midU (fun a2=>m_  a2=some r) (fun a2 b3=>[(2,vB (a2))]) (fun a2 b3=>[]) ?_ ?_
 ·refine aM<|qkMove rfl<|aA (Ce rfl rfl) rfl<|qkMove rfl ?_
  refine BS h rfl (fun _ h=>?_) fun _ h=>?_
  ·refine gyMove rfl<|aS rfl (zY rfl rfl) rfl<|qkPkT rfl<|qkAsg rfl<|dtN ?_
   exact gR (decide (p0<=(4:Int))) () h SF rfl
  refine gdSkip rfl<|gdSkip rfl<|qkPkF rfl<|qkAsg rfl<|dtN ?_
  exact gR (false) () h SF rfl
 intro a2 b3 h
 unfold m_ at h
 refine aQ ?_
 cases h
 exact lC rfl
end
section
def nV (U:Nat) (p0:tD) (p1:cU) (p2:Int) (p3:aT) (p4:Int):Option (Int):=
 Option.bind (pB U ((p0.1,p0.2.1,p0.2.2)) ((p1.1,p1.2)) p3) fun r3=>(if r3≠(0:Int)then(some (r3))else(Option.bind (o_ U p2) fun r7=>(if(!r7)=true then(some (12:Int))else(if(4096:Int)<p4 then(some (3:Int))else(some (0:Int))))))
theorem Ts:aP Tryz.prog 59:=Tryz.call59
theorem GA (U:Nat) {p0:tD} {p1:cU} {p2:Int} {p3:aT} {p4:Int} (v0:Value)  (v1:Value)  (v2:Value)  (v3:Value)  (z4:lW)  (v5:Value)  (z6:oC) (r:Int) (h:nV U p0 p1 p2 p3 p4=some r):
  aU Tryz.prog 59 #[Value.agg #[vS (p0.1),v0,v1],Value.agg #[v2,v3],vI (p2),v5,vI (p4)] [Sl aH v0 p0.2.1,Sl aE v1 p0.2.2,PF (Value.agg #[vS p0.1,v0,v1]),Sl bI v2 p1.1,S2 aY v3 z4 p1.2,S2 bI v5 z6 p3] (fun x:Unit=>vI (r)) (fun x l=>l) (fun _ l=>l):=by
 refine aU.of Tryz.func59 rfl Tryz.ntmps59 rfl fun c=>?_
 refine sqR<|aF (aI.box (cs:=[vS (p0.1),v0,v1]) rfl rfl) rfl fun b1=>aF (aI.box (cs:=[v2,v3]) rfl rfl) rfl fun b2=>qkAsg rfl<|dtN<|aG<|sqR<|qkLdA 1 rfl<|qkLdA 0 rfl<|qkMove rfl<|bnE h fun r3 w4 h=>aF (aI.callQ Wr (IS U v0 v1 v2 v3 z4 v5 z6 r3 w4) rfl (lK [0,1,2,3,4,5] rfl)) rfl fun x5=>qkAsg rfl<|dtN<|sqR<|qkMove rfl<|qkNeq rfl<|dtN ?_
 refine eT h rfl (fun h=>?_) fun h=>?_
 ·refine sqR<|qkMove rfl<|qkAsg rfl<|dtN<|aQ<|aJ ?_
  cases h
  exact wN rfl
 refine cJ<|aG<|sqR<|qkMove rfl<|bnE h fun r7 w8 h=>aF (aI.callQ Ws (IN U  r7 w8) rfl .nil) rfl fun x9=>aA (qX rfl) rfl<|dtN ?_
 refine AG h rfl (fun _ h=>?_) fun _ h=>?_
 ·refine sqR<|qkAsg rfl<|dtN<|aQ<|aJ ?_
  cases h
  exact wN rfl
 refine cJ<|aG<|sqR<|qkMove rfl<|aA (vR rfl rfl) rfl<|dtN ?_
 refine eT h rfl (fun h=>?_) fun h=>?_
 ·refine sqR<|qkAsg rfl<|dtN<|aQ<|aJ ?_
  cases h
  exact wN rfl
 refine cJ<|sqR<|qkAsg rfl<|dtN<|aQ ?_
 cases h
 exact wN rfl
end
section
def rW (U:Nat) (p0:aT) (p1:Int) (p2:DJ):Option (Unit):=
 some (())
theorem Tt:aP Tryz.prog 61:=Tryz.call61
theorem Fl (U:Nat) {p0:aT} {p1:Int} {p2:DJ} (a:Value)  (b:oC) (r:Unit) (h:rW U p0 p1 p2=some r):
  aU Tryz.prog 61 #[a,vU (p1),Value.agg #[vI (p2.1),vI (p2.2.1),vI (p2.2.2.1),vI (p2.2.2.2.1),vU (p2.2.2.2.2)]] [S2 bI a b p0] (fun x:Unit=>Value.tuple #[]) (fun x l=>l) (fun _ l=>l):=by
 refine aU.of Tryz.func61 rfl Tryz.ntmps61 rfl fun c=>?_
 unfold rW at h
 refine aM<|aF (aI.box (cs:=[vI (p2.1),vI (p2.2.1),vI (p2.2.2.1),vI (p2.2.2.2.1),vU (p2.2.2.2.2)]) rfl rfl) rfl fun d=>dN ?_
 cases h
 exact CN () rfl rfl .normal (.inr rfl) .nil aD.nil
end
section
def nD (U:Nat) (p0:Int):Option ((Int×Int×Int×Int×Int)):=
 some (((0:Int),(0:Int),(0:Int),(0:Int),(cD .u32 p0 (16777215:Int))))
theorem PE:aP Tryz.prog 148:=Tryz.call148
theorem BJ (U:Nat) {p0:Int} (r:(Int×Int×Int×Int×Int)) (h:nD U p0=some r):
  aU Tryz.prog 148 #[vU (p0)] [] (fun x:Unit=>Value.agg #[vI (r.1),vI (r.2.1),vI (r.2.2.1),vI (r.2.2.2.1),vU (r.2.2.2.2)]) (fun x l=>l) (fun _ l=>l):=by
 refine aU.of Tryz.func148 rfl Tryz.ntmps148 rfl fun c=>?_
 unfold nD at h
 refine sqR<|aF (aI.alloc (cs:=XX) rfl rfl) rfl fun a=>dtN<|sqR<|qkMove rfl<|qkAnd rfl ?_
 refine aA (SZ (r:=Value.agg #[vI (0:Int),vI (0:Int),vI (0:Int),vI (0:Int),vU (cD .u32 p0 (16777215:Int))]) rfl (by intro w;simp[Instr.build,Instr.fill,c_,cS,cF,dA,dB,cT,eB])) rfl ?_
 refine bE 0 (vs:=[vI (0:Int),vI (0:Int),vI (0:Int),vI (0:Int),vU (cD .u32 p0 (16777215:Int))]) rfl rfl rfl rfl rfl rfl<|dtN<|aQ ?_
 cases h
 exact gY () rfl rfl (RV.cell 0 rfl rfl rfl rfl) .nil aD.nil
end
section
def Ay  (a:QF):Option BE:=
 some (((a.2.2.2.2.2.2.1,a.2.2.2.2.2.2.2.1,a.2.2.2.2.2.2.2.2,((a.1,a.2.1,a.2.2.1,a.2.2.2.1,a.2.2.2.2.1)))),a.2.2.2.2.2.1)
def wZ  (a:aL×aL×aT×Int×Int×Int×Int×Int×Int):Option BE:=
 Ay  (a.2.2.2.1,a.2.2.2.2.1,a.2.2.2.2.2.1,a.2.2.2.2.2.2.1,a.2.2.2.2.2.2.2.1,a.2.2.2.2.2.2.2.2,a.1,a.2.1,a.2.2.1)
def sV  (a:aL×Int×Int×Int×Int×Int×aT×aL):Option BE:=
 wZ  (a.2.2.2.2.2.2.2,a.1,a.2.2.2.2.2.2.1,a.2.1,a.2.2.1,a.2.2.2.1,a.2.2.2.2.1,a.2.2.2.2.2.1,(0:Int))
def Az (U:Nat) (p0:tD) (p1:cU) (p2:Int) (a20:DI) (a117:Int×aL×Int×Int×Int×Int×Int×Int×aT×aL) (ag116:(Int×aL×Int×Int×Int×Int×Int×Int×aT×aL)->Option BE) (a122:Int):Option BE:=
 if¬(a117.1≠(0:Int))then(sV  (a117.2.1,a117.2.2.2.1,a117.2.2.2.2.1,a117.2.2.2.2.2.1,a117.2.2.2.2.2.2.1,a117.2.2.2.2.2.2.2.1,a117.2.2.2.2.2.2.2.2.1,a117.2.2.2.2.2.2.2.2.2))else(Option.bind (dL U a20.2.1 p2 a117.1 a122) fun r125=>(if(!r125)=true then(wZ  (([]:aL),([]:aL),([]:aT),(0:Int),(0:Int),(0:Int),(0:Int),(0:Int),(11:Int)))else(Option.bind (eJ U ((((p0.1,p0.2.1,p0.2.2)),((((p0.1,p0.2.1,p0.2.2)),((p1.1,p1.2)),a20.2.2.2.1,a20.2.2.2.2)),a20.2.2.1)) a117.2.2.2.2.2.2.2.2.1 a122) fun r129=>(Option.bind (bW U ((((p0.1,p0.2.1,p0.2.2)),((((p0.1,p0.2.1,p0.2.2)),((p1.1,p1.2)),a20.2.2.2.1,a20.2.2.2.2)),a20.2.2.1)) r129) fun r132=>(Option.bind (gW U ((a117.2.2.2.1,a117.2.2.2.2.1,a117.2.2.2.2.2.1,a117.2.2.2.2.2.2.1,a117.2.2.2.2.2.2.2.1)) a122 (cD .u32 r132 a20.1)) fun r135=>(Option.bind (rW U r129 (cD .u32 r132 a20.1) ((r135.1.1,r135.1.2.1,r135.1.2.2.1,r135.1.2.2.2.1,r135.1.2.2.2.2))) fun r138=>(ck ((List.length a117.2.2.2.2.2.2.2.2.2:Int)+(List.length ([a122]):Int)<=1099511627) (ck ((List.length a117.2.1:Int)+(List.length ([(cD .u32 r132 a20.1)]):Int)<=1099511627) (ag116 ((cD .u32 r132 a20.1),(a117.2.1++([(cD .u32 r132 a20.1)])),(wI .i64 (a117.2.2.1+(1:Int))),r135.1.1,r135.1.2.1,r135.1.2.2.1,r135.1.2.2.2.1,r135.1.2.2.2.2,r129,(a117.2.2.2.2.2.2.2.2.2++[a122])))))))))))
def sX (U:Nat) (p0:tD) (p1:cU) (p2:Int) (p4:aL) (c:DI) (a:Int×aL×Int×Int×Int×Int×Int×Int×aT×aL) (b:(Int×aL×Int×Int×Int×Int×Int×Int×aT×aL)->Option BE):Option BE:=
 if a.2.2.1<(List.length p4:Int)then(ck (0<=a.2.2.1∧a.2.2.1<(List.length p4:Int)) (Option.bind (cO U c.2.1 p2 a.1 (at' p4 a.2.2.1)) fun d=>(Az U p0 p1 p2 c a b (d))))else(sV  (a.2.1,a.2.2.2.1,a.2.2.2.2.1,a.2.2.2.2.2.1,a.2.2.2.2.2.2.1,a.2.2.2.2.2.2.2.1,a.2.2.2.2.2.2.2.2.1,a.2.2.2.2.2.2.2.2.2))
def Ax (U:Nat) (p0:tD) (p1:cU) (p2:Int) (p3:aT) (p4:aL) (b:DI):Option BE:=
 Option.bind (kB U p3) fun d=>(Option.bind (bW U ((((p0.1,p0.2.1,p0.2.2)),((((p0.1,p0.2.1,p0.2.2)),((p1.1,p1.2)),b.2.2.2.1,b.2.2.2.2)),b.2.2.1)) d) fun c=>(Option.bind (nD U (cD .u32 c b.1)) fun a=>(Option.bind (rW U d (cD .u32 c b.1) ((a.1,a.2.1,a.2.2.1,a.2.2.2.1,a.2.2.2.2))) fun e=>(ck ((List.length ([]:aL):Int)+(List.length ([(cD .u32 c b.1)]):Int)<=1099511627) (bJ (sX U p0 p1 p2 p4 b) U ((cD .u32 c b.1),(([]:aL)++([(cD .u32 c b.1)])),(0:Int),a.1,a.2.1,a.2.2.1,a.2.2.2.1,a.2.2.2.2,d,([]:aL)))))))
def w_ (U:Nat) (p0:tD) (p1:cU) (p2:Int) (p3:aT) (p4:aL) (a:fQ×Int×aT):Option BE:=
 Option.bind (g_ U ((p1.1,p1.2))) fun b=>(Option.bind (rC U ((p1.1,p1.2))) fun c=>(Ax U p0 p1 p2 p3 p4 (c,b,a.1,a.2.1,a.2.2)))
def xA (U:Nat) (p0:tD) (p1:cU) (p2:Int) (p3:aT) (p4:aL) (a:Int×aT):Option BE:=
 Option.bind (jB U ((p0.1,p0.2.1,p0.2.2)) ((p1.1,p1.2))) fun b=>(w_ U p0 p1 p2 p3 p4 (b,a.1,a.2))
def sW (U:Nat) (p0:tD) (p1:cU) (p2:Int) (p3:aT) (p4:aL) (a:Int×aT):Option BE:=
 xA U p0 p1 p2 p3 p4 (a.1,a.2)
def xB (p1:cU) (a:Int×Int×aT) (b:(Int×Int×aT)->Option BE) (c:aT):Option BE:=
 b ((wI .i64 (a.1+(1:Int))),(max a.2.1 (at' p1.1 a.1)),c)
def qJ (U:Nat) (p1:cU) (a:Int×Int×aT) (d:(Int×Int×aT)->Option BE) (b:Int×aT) (e:(Int×aT)->Option BE):Option BE:=
 if b.1<(List.length (at' p1.2 a.1):Int)then(ck (0<=b.1∧b.1<(List.length (at' p1.2 a.1):Int)) (ck (0<=a.1∧a.1<(List.length b.2:Int)) (Option.bind (mG U ((p1.1,p1.2)) ((at' (at' p1.2 a.1) b.1).1) a.1) fun c=>(ck ((List.length (at' b.2 a.1):Int)+(List.length ([c]):Int)<=1099511627) (ck (0<=a.1∧a.1<(List.length (List.set b.2 (Int.toNat a.1) ((at' b.2 a.1)++[c])):Int)) (e ((wI .i64 (b.1+(1:Int))),(List.set b.2 (Int.toNat a.1) ((at' b.2 a.1)++[c])))))))))else(xB p1 a d (b.2))
def lN (U:Nat) (p0:tD) (p1:cU) (p2:Int) (p3:aT) (p4:aL) (a:Int×Int×aT) (b:(Int×Int×aT)->Option BE):Option BE:=
 if a.1<(List.length p1.2:Int)then(ck (0<=a.1∧a.1<(List.length p1.2:Int)) (ck (0<=a.1∧a.1<(List.length p1.1:Int)) (bJ (qJ U p1 a b) U ((0:Int),a.2.2))))else(sW U p0 p1 p2 p3 p4 (a.2.1,a.2.2))
def lM (U:Nat) (p0:tD) (p1:cU) (p2:Int) (p3:aT) (p4:aL):Option BE:=
 Option.bind (nV U ((p0.1,p0.2.1,p0.2.2)) ((p1.1,p1.2)) p2 p3 (List.length p4:Int)) fun a=>(if a≠(0:Int)then(some (((([]:aL),([]:aL),([]:aT),(((0:Int),(0:Int),(0:Int),(0:Int),(0:Int))))),a))else(ck (0<=(List.length p1.2:Int)∧(List.length p1.2:Int)<=1099511627) (bJ (lN U p0 p1 p2 p3 p4) U ((0:Int),(0:Int),(List.replicate (Int.toNat (List.length p1.2:Int)) ([]:aL))))))
theorem HS:aP Tryz.prog 30:=Tryz.call30
theorem vK (U:Nat) {p0:tD} {p1:cU} {p2:Int} {p3:aT} {p4:aL} (v0:Value)  (v1:Value)  (v2:Value)  (v3:Value)  (z4:lW)  (v5:Value)  (z6:oC)  (v7:Value) (r:(aL×aL×aT×(Int×Int×Int×Int×Int))×Int) (h:lM U p0 p1 p2 p3 p4=some r):
  aU Tryz.prog 30 #[Value.agg #[vS (p0.1),v0,v1],Value.agg #[v2,v3],vI (p2),v5,v7] [Sl aH v0 p0.2.1,Sl aE v1 p0.2.2,PF (Value.agg #[vS p0.1,v0,v1]),Sl bI v2 p1.1,S2 aY v3 z4 p1.2,S2 bI v5 z6 p3,Sl pI v7 p4,Gb 0 (cellsOf AV oA)] (fun x:Value×Value×Value×List Value=>Value.tuple #[Value.agg #[x.1,x.2.1,x.2.2.1,vI (r.1.2.2.2.1),vI (r.1.2.2.2.2.1),vI (r.1.2.2.2.2.2.1),vI (r.1.2.2.2.2.2.2.1),vU (r.1.2.2.2.2.2.2.2)],vI (r.2)]) (fun x l=>Ar gK x.1 r.1.1::Ar gK x.2.1 r.1.2.1::Ar cE.raw x.2.2.1 x.2.2.2::fT bO x.2.2.2 r.1.2.2.1::l) (fun _ l=>l):=by
 refine aU.of Tryz.func30 rfl Tryz.ntmps30 rfl fun c=>?_
 refine sqR<|aF (aI.box (cs:=[vS (p0.1),v0,v1]) rfl rfl) rfl fun b1=>aF (aI.box (cs:=[v2,v3]) rfl rfl) rfl fun b2=>aF (aI.alloc (cs:=zS) rfl rfl) rfl fun b3=>qkAsg rfl<|dtN<|aG<|sqR<|qkLdA 2 rfl<|qkLdA 1 rfl<|qkMove rfl<|qkMove rfl<|qkMove rfl<|qkLen (aB.fact 6 rfl) rfl<|bnE h fun r4 w5 h=>aF (aI.callQ Ts (GA U v0 v1 v2 v3 z4 v5 z6 r4 w5) rfl (lK [0,1,2,3,4,5] rfl)) rfl fun x6=>qkAsg rfl<|dtN<|sqR<|qkMove rfl<|qkNeq rfl<|dtN ?_
 refine eT h rfl (fun h=>?_) fun h=>?_
 ·refine sqR ?_
  refine aA (DU (r:=Value.agg #[gM,gM,gM,vI (0:Int),vI (0:Int),vI (0:Int),vI (0:Int),vU (0:Int)]) (by intro w;simp[Instr.build,Instr.fill,c_,cS,cF,dA,dB,cT,eB])) rfl ?_
  refine qkMove rfl<|bE 0 (vs:=zS) rfl rfl rfl rfl rfl rfl<|qkAsg rfl<|dtN<|aQ<|aJ<|eQ (dH gK)<|eQ (dH gK)<|eQ (dH cE.raw) (eQ (pL bO) ?_)
  cases h
  exact iO ((gM),(gM),(gM),([]:eV)) rfl rfl (RV.cell 4 rfl rfl rfl rfl) (RV.tmp rfl) (aR.ix [2,3,1,0] rfl rfl) aD.nil
 refine cJ<|sqR<|qkLdA 2 rfl<|qkLdA 1 rfl<|qkMove rfl<|uQ (A:=DI) (B:=Nat×Value×Nat×Value×List Value×Value×List Value) (vs:=[Value.agg #[vS (p0.1),v0,v1],Value.agg #[v2,v3],vI (p2),Value.func (.func 61) #[] #[]]) (fun a20=>Ax U p0 p1 p2 p3 p4 a20=some r) (fun a20 b21=>Value.agg #[vP b21.1,b21.2.1,vI (p2),vU (a20.1),Value.func (.func 61) #[] #[]]) (fun a20 b21=>[Ar gK b21.2.1 a20.2.1,bL b21.1 [vS (p0.1),v0,v1,vP b21.2.2.1,b21.2.2.2.1] 170,Ar cE.raw b21.2.2.2.1 b21.2.2.2.2.1,fT bS b21.2.2.2.2.1 a20.2.2.1,bL b21.2.2.1 [vS (p0.1),v0,v1,v2,v3,vI (a20.2.2.2.1),b21.2.2.2.2.2.1] 218,Ar cE.raw b21.2.2.2.2.2.1 b21.2.2.2.2.2.2,fT bO b21.2.2.2.2.2.2 a20.2.2.2.2,bL b3 zS 63]) (fun a20 b21=>[Sl aH v0 p0.2.1,Sl aE v1 p0.2.2,PF (Value.agg #[vS p0.1,v0,v1]),Sl bI v2 p1.1,S2 aY v3 z4 p1.2,S2 bI v5 z6 p3,Sl pI v7 p4,Gb 0 (cellsOf AV oA)]) (pV.fn (show aP Tryz.prog 60 from Tryz.call60) rfl) Tryz.func60 rfl Tryz.ntmps60 rfl rfl ?_ ?_
 ·refine sqR<|aF (aI.box (cs:=[vS (p0.1),v0,v1]) rfl rfl) rfl fun b153=>aF (aI.box (cs:=[v2,v3]) rfl rfl) rfl fun b154=>aF (aI.alloc (cs:=Pj) rfl rfl) rfl fun b155=>dtN<|aG ?_
  refine JR.start [0,0,3,0,15,0,0,95,0,511,1023] 9 mixedOrders (by decide +kernel) ?_
  refine JR.open (by exact rfl) ?_
  refine jkLdA 2 rfl<|jkLdA 1 rfl<|GZ (A:=fQ×Int×aT) (B:=Nat×Nat×Value×List Value×Value×List Value) (vs:=[Value.agg #[vS (p0.1),v0,v1],Value.agg #[v2,v3]]) (fun a165=>w_ U p0 p1 p2 p3 p4 a165=some r) (fun a165 b166=>vP b166.1) (fun a165 b166=>[bL b166.1 [vS (p0.1),v0,v1,vP b166.2.1,b166.2.2.1] 170,Ar cE.raw b166.2.2.1 b166.2.2.2.1,fT bS b166.2.2.2.1 a165.1,bL b166.2.1 [vS (p0.1),v0,v1,v2,v3,vI (a165.2.1),b166.2.2.2.2.1] 218,Ar cE.raw b166.2.2.2.2.1 b166.2.2.2.2.2,fT bO b166.2.2.2.2.2 a165.2.2,bL b155 Pj 107,bL b154 [v2,v3] 29,bL b153 [vS (p0.1),v0,v1] 36,bL b3 zS 63]) (fun a165 b166=>[Sl aH v0 p0.2.1,Sl aE v1 p0.2.2,PF (Value.agg #[vS p0.1,v0,v1]),Sl bI v2 p1.1,S2 aY v3 z4 p1.2,S2 bI v5 z6 p3,Sl pI v7 p4,Gb 0 (cellsOf AV oA)]) rfl rfl rfl (pV.fn (show aP Tryz.prog 79 from Tryz.call79) rfl) Tryz.func79 rfl Tryz.ntmps79 rfl rfl (fun _ _=>(mW [] rfl)) ?_ ?_
  ·refine sqR<|aF (aI.box (cs:=[vS (p0.1),v0,v1]) rfl rfl) rfl fun b175=>aF (aI.box (cs:=[v2,v3]) rfl rfl) rfl fun b176=>qkAsg rfl<|dtN<|aG ?_
   refine JR.start [0,0,0,6,0,0,62,127,255,511] 7 mixedOrders (by decide +kernel) ?_
   refine JR.open (by exact rfl) ?_
   refine jkLdA 1 rfl<|jkLdA 1 rfl<|jkLdA 0 rfl<|GZ (A:=Int×aT) (B:=Nat×Value×List Value) (vs:=[Value.agg #[vS (p0.1),v0,v1],Value.agg #[v2,v3]]) (fun a182=>xA U p0 p1 p2 p3 p4 a182=some r) (fun a182 b183=>vP b183.1) (fun a182 b183=>[bL b183.1 [vS (p0.1),v0,v1,v2,v3,vI (a182.1),b183.2.1] 218,Ar cE.raw b183.2.1 b183.2.2,fT bO b183.2.2 a182.2,bL b176 [v2,v3] 29,bL b175 [vS (p0.1),v0,v1] 36,bL b155 Pj 107,bL b154 [v2,v3] 29,bL b153 [vS (p0.1),v0,v1] 36,bL b3 zS 63]) (fun a182 b183=>[Sl aH v0 p0.2.1,Sl aE v1 p0.2.2,PF (Value.agg #[vS p0.1,v0,v1]),Sl bI v2 p1.1,S2 aY v3 z4 p1.2,S2 bI v5 z6 p3,Sl pI v7 p4,Gb 0 (cellsOf AV oA)]) rfl rfl rfl (pV.fn (show aP Tryz.prog 113 from Tryz.call113) rfl) Tryz.func113 rfl Tryz.ntmps113 rfl rfl (fun _ _=>(mW [([4],[])] rfl)) ?_ ?_
   ·refine sqR<|aF (aI.box (cs:=[vS (p0.1),v0,v1]) rfl rfl) rfl fun b189=>aF (aI.box (cs:=[v2,v3]) rfl rfl) rfl fun b190=>qkAsg rfl<|dtN<|aG ?_
    refine JR.start [0,0,0,4,12,28,63,127,255] 6 mixedOrders (by decide +kernel) ?_
    refine JR.open (by exact rfl) ?_
    refine jkLdA 1 rfl<|jkLdA 0 rfl<|jkFld rfl<|jkLd 0 rfl<|bG rfl .nil (lX 4 rfl) (iW rfl (aB.fact 0 rfl) rfl) aK.z<|ckE h fun j191 h=>JR.stp (uH bO (Int.toNat (List.length p1.2:Int)))<|JR.loud rfl rfl rfl (pN (e:=cE.raw) (gM) rfl rfl rfl rfl j191 rfl rfl rfl) rfl (fun u192=>(mW [([2],[]),([3],[])] rfl)) fun u192=>bD 6 rfl rfl<|bM (Know.one (aB.sl (aV (i:=0) (j:=1) rfl rfl cC))) fun ho193=>?_
    refine aA (KH (r:=Value.agg #[vS (p0.1),v0,v1,v2,v3,vI (0:Int),u192]) rfl rfl rfl (by intro w;simp[Instr.build,Instr.fill,c_,cS,cF,dA,dB,cT,eB,fS ho193])) rfl ?_
    refine aF (aI.box (cs:=[vS (p0.1),v0,v1,v2,v3,vI (0:Int),u192]) rfl rfl) rfl fun b194=>qkAsg rfl<|dtN<|aG<|midL (B:=eV) (fun a198=>sW U p0 p1 p2 p3 p4 a198=some r) (fun a198 b199=>[(5,vP b194)]) (fun a198 b199=>[bL b194 [vS (p0.1),v0,v1,v2,v3,vI (a198.1),u192] 218,Ar cE.raw u192 b199,fT bO b199 a198.2,bL b176 [v2,v3] 29,bL b175 [vS (p0.1),v0,v1] 36,bL b155 Pj 107,bL b154 [v2,v3] 29,bL b153 [vS (p0.1),v0,v1] 36,bL b3 zS 63]) ?_ ?_
    ·refine sqR<|qkFld rfl<|qkLd 3 rfl<|aA (iW rfl (aB.fact 4 rfl) rfl) rfl<|qkMove rfl<|dtN<|aN<|loopL (B:=eV) (lN U p0 p1 p2 p3 p4) (fun a205 b206=>[(3,vP b190),(5,vP b194),(19,v3),(20,vI (List.length p1.2:Int)),(21,vI (a205.1))]) (fun a205 b206=>[bL b194 [vS (p0.1),v0,v1,v2,v3,vI (a205.2.1),u192] 218,Ar cE.raw u192 b206,fT bO b206 a205.2.2,bL b190 [v2,v3] 29,bL b176 [v2,v3] 29,bL b175 [vS (p0.1),v0,v1] 36,bL b155 Pj 107,bL b154 [v2,v3] 29,bL b153 [vS (p0.1),v0,v1] 36,bL b3 zS 63]) ((0:Int),(0:Int),(List.replicate (Int.toNat (List.length p1.2:Int)) ([]:aL))) (List.replicate (Int.toNat (List.length p1.2:Int)) (gM)) h SF (aR.ix [0,1,2,3,5,6,7,8,9,10] rfl rfl) ?_
     intro k207 a205 b206 h
     refine sqR<|qkLss rfl<|dtN<|aG ?_
     refine eT h rfl (fun h=>?_) fun h=>?_
     ·refine cJ<|aG<|midL (B:=eV) (fun a211=>xB p1 a205 (bJ (lN U p0 p1 p2 p3 p4) k207) a211=some r) (fun a211 b212=>[(3,vP b190),(5,vP b194),(19,v3),(20,vI (List.length p1.2:Int)),(21,vI (a205.1))]) (fun a211 b212=>[bL b194 [vS (p0.1),v0,v1,v2,v3,vI (max a205.2.1 (at' p1.1 a205.1)),u192] 218,Ar cE.raw u192 b212,fT bO b212 a211,bL b190 [v2,v3] 29,bL b176 [v2,v3] 29,bL b175 [vS (p0.1),v0,v1] 36,bL b155 Pj 107,bL b154 [v2,v3] 29,bL b153 [vS (p0.1),v0,v1] 36,bL b3 zS 63]) ?_ ?_
      ·refine aN<|sqR<|qkMove rfl<|ckE h fun j213 h=>aA (cY rfl rfl (aB.fact 4 rfl) rfl rfl j213) rfl<|aA (cW rfl (aB.fact 4 rfl) rfl rfl j213) rfl<|qkAsg rfl<|qkAsg rfl<|dtN<|aG ?_
       refine JR.start [0,0,2,6,14,0,32,0,224,480,1022,2047,4095,8191] 11 mixedOrders (by decide +kernel) ?_
       refine JR.open (by exact rfl) ?_
       refine jkMove rfl<|jkMove rfl<|jqN rfl (bR rfl)<|jkFld rfl<|jkLd 0 rfl<|jkFld rfl<|jkLd 3 rfl<|jkMove rfl<|ckE h fun j214 h=>bG rfl .nil (lX 3 rfl) (a_ rfl rfl (aB.fact 0 rfl) rfl rfl j214) aK.z<|bG rfl .nil (lX 3 rfl) (bV rfl (aB.fact 0 rfl) rfl rfl rfl eD j214) aK.z<|jqN rfl (HK rfl rfl)<|bD 11 rfl rfl<|aA (bR rfl) rfl<|qkFld rfl<|eP 0 rfl rfl rfl rfl rfl rfl<|dtN<|sqR<|qkMove rfl<|aA (fR rfl (aB.el (aB.fact 4 rfl) j213.1 j213.2) rfl) rfl<|qkMove rfl<|dtN<|aN<|loopL (B:=eV) (qJ U p1 a205 (bJ (lN U p0 p1 p2 p3 p4) k207)) (fun a219 b220=>[(3,vP b190),(5,vP b194),(6,vI (a205.1)),(19,v3),(20,vI (List.length p1.2:Int)),(21,vI (a205.1)),(39,(at' z4 a205.1).1),(40,vI (List.length (at' p1.2 a205.1):Int)),(41,vI (a219.1))]) (fun a219 b220=>[bL b194 [vS (p0.1),v0,v1,v2,v3,vI (max a205.2.1 (at' p1.1 a205.1)),u192] 218,Ar cE.raw u192 b220,fT bO b220 a219.2,bL b190 [v2,v3] 29,bL b176 [v2,v3] 29,bL b175 [vS (p0.1),v0,v1] 36,bL b155 Pj 107,bL b154 [v2,v3] 29,bL b153 [vS (p0.1),v0,v1] 36,bL b3 zS 63]) ((0:Int),a205.2.2) (b206) h SF (aR.refl _) ?_
       intro k221 a219 b220 h
       refine sqR<|qkLss rfl<|dtN<|aG ?_
       refine eT h rfl (fun h=>?_) fun h=>?_
       ·refine cJ<|aG<|aN<|sqR<|ckE h fun j223 h=>aA (a_ rfl rfl (aB.el (aB.fact 4 rfl) j213.1 j213.2) rfl rfl j223) rfl<|aA (iA (cs:=[vI ((at' (at' p1.2 a205.1) a219.1).1),vI ((at' (at' p1.2 a205.1) a219.1).2)]) rfl (aB.el (aB.fact 4 rfl) j213.1 j213.2) bN rfl rfl rfl rfl j223) rfl<|aF (aI.alloc (cs:=QK) rfl rfl) rfl fun b224=>bE 0 (vs:=[vI ((at' (at' p1.2 a205.1) a219.1).1),vI ((at' (at' p1.2 a205.1) a219.1).2)]) rfl rfl rfl rfl rfl rfl<|dtN ?_
        refine JR.start [0,1,3,7,0,0,32,96,224,0,992,2016,0,0,8192,0,61440,126976,262112,524287,1048575] 19 mixedOrders (by decide +kernel) ?_
        refine JR.open (by exact rfl) ?_
        refine jkMove rfl<|jqN rfl (bR rfl)<|jkFld rfl<|jkLd 1 rfl<|jkMove rfl<|jkMove rfl<|jqN rfl (bR rfl)<|jkFld rfl<|jkLd 1 rfl<|jkMove rfl<|ckE h fun j225 h=>cB (cQ 3 rfl) fun hl226=>?_
        refine bG rfl (aR.cons 2 rfl .nil) .nil (gH 0 rfl rfl rfl rfl rfl j225.1 (by have q1:=j225.2;have q2:=hl226;(try simp only[List.length_set]at q1);(try simp only[List.length_set]at q2);(try simp only[List.length_set]);omega)) aK.z ?_
        refine cB (cQ 3 rfl) fun hl227=>bG rfl (aR.cons 2 rfl .nil) .nil (kQ 0 rfl rfl hl227 rfl rfl j225) aK.z<|jkLdA 4 rfl<|jkFld rfl<|jkLd 0 rfl<|jkMove rfl<|bnE h fun r228 w229 h=>JR.loud rfl rfl rfl (aI.callQ Tw (CC U v2 v3 z4 r228 w229) rfl (lK [3,4] rfl)) rfl (fun x230=>(mW [([2],[]),([2],[]),([1],[]),([1],[])] rfl)) fun x230=>JR.loud rfl rfl rfl (bU (e:=bO) ([r228]) [(0,vI (r228))] rfl rfl rfl rfl (iJ (vI (r228)) rfl) rfl rfl rfl) rfl (fun u231=>(mW [([3],[]),([3],[]),([2],[]),([2],[])] rfl)) fun u231=>ckE h fun j233 h=>JR.loud rfl rfl rfl (mZ 4 cC rfl rfl rfl (aO (aB.res 0 rfl) cC) rfl rfl rfl rfl j225 j233 rfl) rfl (fun u232=>(mW [([2],[])] rfl)) fun u232=>bD 19 rfl rfl<|ckE h fun j234 h=>bM (cQ 4 rfl) fun hl235=>?_
        refine aA (gH 3 rfl rfl rfl rfl rfl j234.1 (by have q1:=j234.2;have q2:=hl235;(try simp only[List.length_set]at q1);(try simp only[List.length_set]at q2);(try simp only[List.length_set]);omega)) rfl ?_
        refine bM (xI 4 (k:=a205.1) rfl ⟨j234.1,by first|exact j234.2|simpa using j234.2⟩) fun ho236=>?_
        refine nY 3 4 ⟨j234.1,by first|exact j234.2|simpa using j234.2⟩ rfl rfl rfl rfl rfl (by simp) ho236 rfl ?_
        refine dN<|inT<|aM<|qkAdd rfl<|qkMove rfl<|dtN ?_
        exact kZ ((wI .i64 (a219.1+(1:Int))),(List.set a219.2 (Int.toNat a205.1) ((at' a219.2 a205.1)++[r228]))) (List.set b220 (Int.toNat a205.1) u232) h SF (aR.ix [2,3,4,5,6,7,8,9,10,11] rfl rfl) (aD.refl _ _)
       refine oK<|dJ<|dJ<|uF<|inT ?_
       exact gR (a219.2) (b220) h SF rfl
      intro a211 b212 h
      unfold xB at h
      refine aM<|qkAdd rfl<|qkMove rfl<|dtN ?_
      exact yX ((wI .i64 (a205.1+(1:Int))),(max a205.2.1 (at' p1.1 a205.1)),a211) (b212) h SF rfl
     refine fM ?_
     exact bT (a205.2.1,a205.2.2) (b206) h SF (aR.ix [0,1,2,4,5,6,7,8,9] rfl rfl) (aD.refl _ _)
    intro a198 b199 h
    unfold sW at h
    refine sqR<|qkMove rfl<|qkAsg rfl<|dtN<|aQ ?_
    exact oL (a198.1,a198.2) (b194,u192,b199) h (.inl rfl) (Df.r1 rfl (RV.tmp rfl)) rfl (aR.refl _) (aD.refl _ _)
   intro a182 b183 h
   unfold xA at h
   refine bG rfl (aR.cons 4 rfl .nil) .nil (eN 0 rfl rfl rfl rfl) (aK.h (aR.ix [1] rfl rfl) .nil aK.z)<|bG rfl (aR.cons 3 rfl .nil) .nil (eN 0 rfl rfl rfl rfl) (aK.h (aR.ix [0] rfl rfl) .nil aK.z)<|bnE h fun r184 w185 h=>JR.loud rfl rfl rfl (aI.callQ Ot (zM U v0 v1 v2 v3 z4 r184 w185) rfl (lK [0,1,2,3,4] rfl)) rfl (fun x186=>(mW [([6],[])] rfl)) fun x186=>bD 7 rfl rfl<|bM (Know.one (aB.sl (aV (i:=0) (j:=1) rfl rfl bN))) fun ho187=>?_
   refine aA (KH (r:=Value.agg #[vS (p0.1),v0,v1,Value.pointer (some ⟨b183.1,0,none⟩),x186.1]) rfl rfl rfl (by intro w;simp[Instr.build,Instr.fill,c_,cS,cF,dA,dB,cT,eB,fS ho187])) rfl ?_
   refine aF (aI.box (cs:=[vS (p0.1),v0,v1,vP b183.1,x186.1]) rfl rfl) rfl fun b188=>qkAsg rfl<|dtN<|aQ ?_
   exact oL (r184,a182.1,a182.2) (b188,b183.1,x186.1,x186.2,b183.2.1,b183.2.2) h (.inl rfl) (Df.r1 rfl (RV.tmp rfl)) rfl (aR.ix [0,1,2,3,4,5,8,9,10,11] rfl rfl) (aD.refl _ _)
  intro a165 b166 h
  unfold w_ at h
  refine bG rfl (aR.cons 7 rfl .nil) .nil (eN 0 rfl rfl rfl rfl) (aK.h (aR.ix [1] rfl rfl) .nil aK.z)<|bnE h fun r167 w168 h=>JR.loud rfl rfl rfl (aI.callQ Pz (BK U v2 v3 z4 r167 w168) rfl (lK [3,4] rfl)) rfl (fun x169=>(mW [] rfl)) fun x169=>jqN rfl (dD rfl)<|bG rfl (aR.cons 8 rfl .nil) .nil (eN 0 rfl rfl rfl rfl) (aK.h (aR.ix [7] rfl rfl) .nil (aK.h (aR.ix [1] rfl rfl) .nil aK.z))<|bnE h fun r170 w171 h=>JR.loud rfl rfl rfl (aI.callQ Py (Gz U v2 v3 z4 r170 w171) rfl (lK [3,4] rfl)) rfl (fun x172=>(mW [] rfl)) fun x172=>jqN rfl (dD rfl)<|bD 9 rfl rfl<|bM (Know.one ((aO (aB.res 0 rfl) fJ))) fun ho173=>?_
  refine aA (Y.bld5 (r:=Value.agg #[Value.pointer (some ⟨b166.1,0,none⟩),x169,vI (p2),vU (r170),Value.func (.func 61) #[] #[]]) rfl rfl rfl rfl rfl (by intro w;simp[Instr.build,Instr.fill,c_,cS,cF,dA,dB,cT,eB,fS ho173])) rfl ?_
  refine bM (Know.one ((aO (aB.res 0 rfl) fJ))) fun ho174=>bE 7 (vs:=[vP b166.1,x169,vI (p2),vU (r170),Value.func (.func 61) #[] #[]]) rfl rfl (bY rfl (bY ho174 (bY rfl (bY rfl (bY rfl rfl))))) rfl rfl rfl<|dtN<|aQ ?_
  exact oL (r170,r167,a165.1,a165.2.1,a165.2.2) (b166.1,x169,b166.2.1,b166.2.2.1,b166.2.2.2.1,b166.2.2.2.2.1,b166.2.2.2.2.2) h (.inl rfl) (Df.r1 rfl (RV.cell 7 rfl rfl rfl rfl)) rfl (aR.ix [0,1,2,3,4,5,6,10] rfl rfl) (aD.refl _ _)
 intro a20 b21 h
 refine qkMove rfl<|qkMove rfl<|uQ (A:=QF) (B:=Value×Value×Value×List Value) (vs:=[Value.agg #[vP b21.1,b21.2.1,vI (p2),vU (a20.1),Value.func (.func 61) #[] #[]],v5,v7]) (fun a35=>Ay  a35=some r) (fun a35 b36=>Value.tuple #[Value.agg #[b36.1,b36.2.1,b36.2.2.1,vI (a35.1),vI (a35.2.1),vI (a35.2.2.1),vI (a35.2.2.2.1),vU (a35.2.2.2.2.1)],vI (a35.2.2.2.2.2.1)]) (fun a35 b36=>[bL b3 zS 63,Ar gK b36.1 a35.2.2.2.2.2.2.1,Ar gK b36.2.1 a35.2.2.2.2.2.2.2.1,Ar cE.raw b36.2.2.1 b36.2.2.2,fT bO b36.2.2.2 a35.2.2.2.2.2.2.2.2]) (fun a35 b36=>[Sl aH v0 p0.2.1,Sl aE v1 p0.2.2,PF (Value.agg #[vS p0.1,v0,v1]),Sl bI v2 p1.1,S2 aY v3 z4 p1.2,S2 bI v5 z6 p3,Sl pI v7 p4,Gb 0 (cellsOf AV oA)]) (pV.fn (show aP Tryz.prog 62 from Tryz.call62) rfl) Tryz.func62 rfl Tryz.ntmps62 rfl rfl ?_ ?_
 ·refine sqR<|aF (aI.box (cs:=[vP b21.1,b21.2.1,vI (p2),vU (a20.1),Value.func (.func 61) #[] #[]]) rfl rfl) rfl fun b40=>bM (Know.one ((aB.fact 6 rfl))) fun ho42=>?_
  refine aF (aI.box (cs:=[v7]) rfl (by rw[fS ho42])) rfl fun b41=>?_
  refine aF (aI.alloc (cs:=zS) rfl rfl) rfl fun b43=>qkAsg rfl<|dtN<|sqR<|qkLdA 2 rfl<|qkMove rfl<|qkLd 1 rfl<|qkLen (aB.fact 6 rfl) rfl<|aA (uC (cs:=[.tmp 3,.tmp 5]) (vs:=[vP b40,vP b41]) rfl) rfl<|uQ (A:=aL×aL×aT×Int×Int×Int×Int×Int×Int) (B:=Value×Value×Value×List Value) (vs:=[Value.agg #[vP b21.1,b21.2.1,vI (p2),vU (a20.1),Value.func (.func 61) #[] #[]],v5,vI (List.length p4:Int),Value.func (.func 105) #[] #[vP b40,vP b41]]) (fun a57=>wZ  a57=some r) (fun a57 b58=>Value.tuple #[Value.agg #[b58.1,b58.2.1,b58.2.2.1,vI (a57.2.2.2.1),vI (a57.2.2.2.2.1),vI (a57.2.2.2.2.2.1),vI (a57.2.2.2.2.2.2.1),vU (a57.2.2.2.2.2.2.2.1)],vI (a57.2.2.2.2.2.2.2.2)]) (fun a57 b58=>[bL b43 zS 63,bL b3 zS 63,Ar gK b58.1 a57.1,Ar gK b58.2.1 a57.2.1,Ar cE.raw b58.2.2.1 b58.2.2.2,fT bO b58.2.2.2 a57.2.2.1]) (fun a57 b58=>[Sl aH v0 p0.2.1,Sl aE v1 p0.2.2,PF (Value.agg #[vS p0.1,v0,v1]),Sl bI v2 p1.1,S2 aY v3 z4 p1.2,S2 bI v5 z6 p3,Sl pI v7 p4,Gb 0 (cellsOf AV oA)]) (pV.fn (show aP Tryz.prog 104 from Tryz.call104) rfl) Tryz.func104 rfl Tryz.ntmps104 rfl rfl ?_ ?_
  ·refine sqR<|aF (aI.box (cs:=[vP b21.1,b21.2.1,vI (p2),vU (a20.1),Value.func (.func 61) #[] #[]]) rfl rfl) rfl fun b62=>aF (aI.alloc (cs:=zS) rfl rfl) rfl fun b63=>qkAsg rfl<|dtN<|sqR<|aF (aI.alloc (cs:=zS) rfl rfl) rfl fun b64=>dtN<|sqR<|qkMove rfl<|bnE h fun r65 w66 h=>aF (aI.callQ EA (tB U v5 z6 r65 w66) rfl (lK [5] rfl)) rfl fun x67=>qkAsg rfl<|dtN<|aG ?_
   refine JR.start [0,1,0,7,0,16,63,127] 6 mixedOrders (by decide +kernel) ?_
   refine JR.open (by exact rfl) ?_
   refine jkFld rfl<|jkLd 4 rfl<|jkMove rfl<|bnE h fun r68 w69 h=>JR.loud rfl rfl rfl (aI.callQ KS (kU U b21.1 v0 v1 b21.2.2.1 v0 v1 v2 v3 z4 b21.2.2.2.2.2.1 (List.zip b21.2.2.2.2.2.2 a20.2.2.2.2) b21.2.2.2.1 (List.zip b21.2.2.2.2.1 a20.2.2.1) x67.1 (List.zip x67.2 r65) r68 w69) rfl (aD.cons (aB.res 9 rfl) (aD.cons (aB.fact 0 rfl) (aD.cons (aB.fact 1 rfl) (aD.cons (aB.res 12 rfl) (aD.cons (aB.fact 0 rfl) (aD.cons (aB.fact 1 rfl) (aD.cons (aB.fact 3 rfl) (aD.cons (aB.fact 4 rfl) (aD.cons (aV (i:=13) (j:=14) rfl rfl cC) (aD.cons (aV (i:=10) (j:=11) rfl rfl bN) (aD.cons (aV (i:=0) (j:=1) rfl rfl cC) .nil)))))))))))) rfl (fun x70=>(mW [] rfl)) fun x70=>jqN rfl (cZ rfl rfl rfl rfl rfl)<|bG rfl (aR.cons 4 rfl .nil) .nil (eF 0 rfl rfl rfl rfl rfl) (aK.h (aR.ix [4] rfl rfl) .nil aK.z)<|bD 6 rfl rfl<|qkAnd rfl<|qkAsg rfl<|dtN<|sqR<|qkMove rfl<|bnE h fun r71 w72 h=>aF (aI.callQ PE (BJ U  r71 w72) rfl .nil) rfl fun x73=>aF (aI.alloc (cs:=XX) rfl rfl) rfl fun b74=>bE 0 (vs:=[vI (r71.1),vI (r71.2.1),vI (r71.2.2.1),vI (r71.2.2.2.1),vU (r71.2.2.2.2)]) rfl rfl rfl rfl rfl rfl<|dtN<|sqR<|qkFld rfl<|qkLd 5 rfl<|qkMove rfl<|qkMove rfl<|qkLdA 0 rfl<|bnE h fun r75 w76 h=>aF (qU (vs:=[x67.1,vU (cD .u32 r68 a20.1),Value.agg #[vI (r71.1),vI (r71.2.1),vI (r71.2.2.1),vI (r71.2.2.2.1),vU (r71.2.2.2.2)]]) (cs:=[]) Tt rfl (Fl U x67.1 (List.zip x67.2 r65) r75 w76) rfl (aD.cons (aV (i:=1) (j:=2) rfl rfl cC) .nil) (fun _ _=>rfl)) rfl fun x77=>dtN<|sqR<|qkFld rfl<|qkLd 3 rfl<|qkMove rfl<|aF (bU (e:=gK) ([(cD .u32 r68 a20.1)]) [(0,vU (cD .u32 r68 a20.1))] rfl rfl rfl rfl (iJ (vU (cD .u32 r68 a20.1)) rfl) rfl rfl rfl) rfl fun u78=>eQ (dH gK)<|ckE h fun j80 h=>aF (dW 0 fJ rfl rfl rfl (aO (aB.res 1 rfl) fJ) rfl rfl rfl rfl j80 rfl) rfl fun u79=>qkFld rfl<|bM (Know.one ((aO (aB.res 0 rfl) fJ))) fun ho81=>eP 5 rfl rfl ho81 rfl rfl rfl<|dtN<|aG<|midL (B:=Value×List Value×Value×Value) (fun a94=>sV  a94=some r) (fun a94 b95=>[(1,b95.1),(8,vP b63),(10,vP b64),(12,vP b74)]) (fun a94 b95=>[Ar gK b95.2.2.2 a94.1,bL b74 [vI (a94.2.1),vI (a94.2.2.1),vI (a94.2.2.2.1),vI (a94.2.2.2.2.1),vU (a94.2.2.2.2.2.1)] 61,Ar cE.raw b95.1 b95.2.1,fT bO b95.2.1 a94.2.2.2.2.2.2.1,bL b64 [b95.2.2.1,b95.2.2.2,gM,vI (0:Int),vI (0:Int),vI (0:Int),vI (0:Int),vU (0:Int)] 63,bL b63 zS 63,bL b43 zS 63,bL b3 zS 63,Ar gK b95.2.2.1 a94.2.2.2.2.2.2.2]) ?_ ?_
   ·refine sqR<|qkMove rfl<|qkMove rfl<|dtN<|aN<|eQ (dH gK)<|loopL (B:=Value×List Value×Value×Value) (sX U p0 p1 p2 p4 a20) (fun a117 b118=>[(1,b118.1),(3,Value.func (.func 105) #[] #[vP b40,vP b41]),(4,vP b62),(8,vP b63),(10,vP b64),(11,vU (a117.1)),(12,vP b74),(39,vI (List.length p4:Int)),(40,vI (a117.2.2.1))]) (fun a117 b118=>[Ar gK b118.2.2.2 a117.2.1,bL b74 [vI (a117.2.2.2.1),vI (a117.2.2.2.2.1),vI (a117.2.2.2.2.2.1),vI (a117.2.2.2.2.2.2.1),vU (a117.2.2.2.2.2.2.2.1)] 61,Ar cE.raw b118.1 b118.2.1,fT bO b118.2.1 a117.2.2.2.2.2.2.2.2.1,bL b64 [b118.2.2.1,b118.2.2.2,gM,vI (0:Int),vI (0:Int),vI (0:Int),vI (0:Int),vU (0:Int)] 63,bL b63 zS 63,bL b62 [vP b21.1,b21.2.1,vI (p2),vU (a20.1),Value.func (.func 61) #[] #[]] 107,bL b43 zS 63,bL b41 [v7] 25,bL b40 [vP b21.1,b21.2.1,vI (p2),vU (a20.1),Value.func (.func 61) #[] #[]] 107,Ar gK b21.2.1 a20.2.1,bL b21.1 [vS (p0.1),v0,v1,vP b21.2.2.1,b21.2.2.2.1] 170,Ar cE.raw b21.2.2.2.1 b21.2.2.2.2.1,fT bS b21.2.2.2.2.1 a20.2.2.1,bL b21.2.2.1 [vS (p0.1),v0,v1,v2,v3,vI (a20.2.2.2.1),b21.2.2.2.2.2.1] 218,Ar cE.raw b21.2.2.2.2.2.1 b21.2.2.2.2.2.2,fT bO b21.2.2.2.2.2.2 a20.2.2.2.2,bL b3 zS 63,Ar gK b118.2.2.1 a117.2.2.2.2.2.2.2.2.2]) ((cD .u32 r68 a20.1),(([]:aL)++([(cD .u32 r68 a20.1)])),(0:Int),r71.1,r71.2.1,r71.2.2.1,r71.2.2.2.1,r71.2.2.2.2,r65,([]:aL)) (x67.1,x67.2,(gM),u79) h SF (aR.ix [1,3,4,5,6,7,8,9,10,11,12,13,14,15,16,17,18,19,0] rfl rfl) ?_
    intro k119 a117 b118 h
    refine sqR<|qkLss rfl<|dtN<|aG ?_
    refine eT h rfl (fun h=>?_) fun h=>?_
    ·refine cJ<|aG<|aN<|sqR<|qkMove rfl<|qkAsg rfl<|dtN<|sqR<|qkMove rfl<|qkMove rfl<|qkMove rfl<|uQ (A:=Int) (B:=Unit) (vs:=[vI (a117.2.2.1),vU (a117.1),vP b40,vP b41]) (fun a122=>Az U p0 p1 p2 a20 a117 (bJ (sX U p0 p1 p2 p4 a20) k119) a122=some r) (fun a122 b123=>Value.tuple #[vU (a122),vB (decide (a117.1≠(0:Int)))]) (fun a122 b123=>[Ar gK b118.2.2.2 a117.2.1,bL b74 [vI (a117.2.2.2.1),vI (a117.2.2.2.2.1),vI (a117.2.2.2.2.2.1),vI (a117.2.2.2.2.2.2.1),vU (a117.2.2.2.2.2.2.2.1)] 61,Ar cE.raw b118.1 b118.2.1,fT bO b118.2.1 a117.2.2.2.2.2.2.2.2.1,bL b64 [b118.2.2.1,b118.2.2.2,gM,vI (0:Int),vI (0:Int),vI (0:Int),vI (0:Int),vU (0:Int)] 63,bL b63 zS 63,bL b62 [vP b21.1,b21.2.1,vI (p2),vU (a20.1),Value.func (.func 61) #[] #[]] 107,bL b43 zS 63,bL b41 [v7] 25,bL b40 [vP b21.1,b21.2.1,vI (p2),vU (a20.1),Value.func (.func 61) #[] #[]] 107,Ar gK b21.2.1 a20.2.1,bL b21.1 [vS (p0.1),v0,v1,vP b21.2.2.1,b21.2.2.2.1] 170,Ar cE.raw b21.2.2.2.1 b21.2.2.2.2.1,fT bS b21.2.2.2.2.1 a20.2.2.1,bL b21.2.2.1 [vS (p0.1),v0,v1,v2,v3,vI (a20.2.2.2.1),b21.2.2.2.2.2.1] 218,Ar cE.raw b21.2.2.2.2.2.1 b21.2.2.2.2.2.2,fT bO b21.2.2.2.2.2.2 a20.2.2.2.2,bL b3 zS 63,Ar gK b118.2.2.1 a117.2.2.2.2.2.2.2.2.2]) (fun a122 b123=>[Sl aH v0 p0.2.1,Sl aE v1 p0.2.2,PF (Value.agg #[vS p0.1,v0,v1]),Sl bI v2 p1.1,S2 aY v3 z4 p1.2,S2 bI v5 z6 p3,Sl pI v7 p4,Gb 0 (cellsOf AV oA)]) (CL (us:=[vI (a117.2.2.1),vU (a117.1)]) (cs:=[vP b40,vP b41]) (show aP Tryz.prog 105 from Tryz.call105) rfl rfl rfl) Tryz.func105 rfl Tryz.ntmps105 rfl rfl ?_ ?_
     ·refine sqR<|qkAsg rfl<|qkAsg rfl<|dtN<|aG ?_
      refine JR.start [0,1,0,4,0,0,0,96,224,511,0,1024,1023,8191] 13 mixedOrders (by decide +kernel) ?_
      refine JR.open (by exact rfl) ?_
      refine jkFld rfl<|jkLd 9 rfl<|jkFld rfl<|jkLd 9 rfl<|jkMove rfl<|jkLd 8 rfl<|jkMove rfl<|ckE h fun j149 h=>bG rfl .nil (lX 6 rfl) (a_ rfl rfl (aB.fact 0 rfl) rfl rfl j149) aK.z<|bG rfl .nil (lX 6 rfl) (bV rfl (aB.fact 0 rfl) rfl rfl rfl Am j149) aK.z<|bnE h fun r150 w151 h=>JR.loud rfl rfl rfl (aI.callQ KP (pT U b21.2.1 r150 w151) rfl (aD.cons (aO (aB.res 10 rfl) fJ) (lK [7] rfl))) rfl (fun x152=>(mW [] rfl)) fun x152=>jqN rfl (dD rfl)<|jqN rfl (HL rfl rfl)<|jqN rfl (iV rfl)<|bD 13 rfl rfl<|qkAsg rfl<|dtN<|aQ ?_
      exact oL (r150) () h (.inl rfl) (Df.r2 rfl (RV.tmp rfl) (RV.tmp rfl)) rfl (aR.refl _) (aD.refl _ _)
     intro a122 b123 h
     refine qkMove rfl<|qkExt rfl<|qkExt rfl<|qkAsg rfl<|qkAsg rfl<|dtN<|aG<|sqR<|qkMove rfl<|aA (Tb rfl) rfl<|dtN ?_
     refine eT h rfl (fun h=>?_) fun h=>?_
     ·refine oK<|dJ<|Pr rfl<|dJ<|dJ<|uF<|wR ?_
      exact bT (a117.2.1,a117.2.2.2.1,a117.2.2.2.2.1,a117.2.2.2.2.2.1,a117.2.2.2.2.2.2.1,a117.2.2.2.2.2.2.2.1,a117.2.2.2.2.2.2.2.2.1,a117.2.2.2.2.2.2.2.2.2) (b118.1,b118.2.1,b118.2.2.1,b118.2.2.2) h SF (aR.ix [0,1,2,3,4,5,7,17,18] rfl rfl) (aD.refl _ _)
     refine cJ<|aG<|sqR<|qkFld rfl<|qkLd 6 rfl<|qkFld rfl<|qkLd 6 rfl<|qkMove rfl<|qkMove rfl<|bnE h fun r125 w126 h=>aF (aI.callQ KQ (pS U b21.2.1 r125 w126) rfl (aD.cons (aO (aB.res 10 rfl) fJ) (lK [7] rfl))) rfl fun x127=>aA (qX rfl) rfl<|dtN ?_
     refine AG h rfl (fun _ h=>?_) fun _ h=>?_
     ·refine sqR ?_
      refine aA (DU (r:=Value.agg #[gM,gM,gM,vI (0:Int),vI (0:Int),vI (0:Int),vI (0:Int),vU (0:Int)]) (by intro w;simp[Instr.build,Instr.fill,c_,cS,cF,dA,dB,cT,eB])) rfl ?_
      refine bE 5 (vs:=zS) rfl rfl rfl rfl rfl rfl<|qkAsg rfl<|dtN<|aQ<|aJ<|bQ<|aJ<|aJ<|bQ<|aJ<|eQ (dH gK)<|eQ (dH gK)<|eQ (dH cE.raw) (eQ (pL bO) ?_)
      exact oL (([]:aL),([]:aL),([]:aT),(0:Int),(0:Int),(0:Int),(0:Int),(0:Int),(11:Int)) ((gM),(gM),(gM),([]:eV)) h (.inl rfl) (Df.r2 rfl (RV.cell 9 rfl rfl rfl rfl) (RV.tmp rfl)) rfl (aR.ix [11,21,2,3,1,0] rfl rfl) (aD.refl _ _)
     refine cJ<|sqR<|qkFld rfl<|qkLd 6 rfl<|qkMove rfl<|qkMove rfl<|bnE h fun r129 w130 h=>aF (aI.callQ PG (xO U b21.1 v0 v1 b21.2.2.1 v0 v1 v2 v3 z4 b21.2.2.2.2.2.1 (List.zip b21.2.2.2.2.2.2 a20.2.2.2.2) b21.2.2.2.1 (List.zip b21.2.2.2.2.1 a20.2.2.1) b118.1 (List.zip b118.2.1 a117.2.2.2.2.2.2.2.2.1) r129 w130) rfl (aD.cons (aB.res 11 rfl) (aD.cons (aB.fact 0 rfl) (aD.cons (aB.fact 1 rfl) (aD.cons (aB.res 14 rfl) (aD.cons (aB.fact 0 rfl) (aD.cons (aB.fact 1 rfl) (aD.cons (aB.fact 3 rfl) (aD.cons (aB.fact 4 rfl) (aD.cons (aV (i:=15) (j:=16) rfl rfl cC) (aD.cons (aV (i:=12) (j:=13) rfl rfl bN) (aD.cons (aV (i:=2) (j:=3) rfl rfl cC) .nil)))))))))))) rfl fun x131=>qkAsg rfl<|dtN<|aG ?_
     refine JR.start [0,1,0,7,0,16,63,127] 6 mixedOrders (by decide +kernel) ?_
     refine JR.open (by exact rfl) ?_
     refine jkFld rfl<|jkLd 8 rfl<|jkMove rfl<|bnE h fun r132 w133 h=>JR.loud rfl rfl rfl (aI.callQ KS (kU U b21.1 v0 v1 b21.2.2.1 v0 v1 v2 v3 z4 b21.2.2.2.2.2.1 (List.zip b21.2.2.2.2.2.2 a20.2.2.2.2) b21.2.2.2.1 (List.zip b21.2.2.2.2.1 a20.2.2.1) x131.1 (List.zip x131.2 r129) r132 w133) rfl (aD.cons (aB.res 13 rfl) (aD.cons (aB.fact 0 rfl) (aD.cons (aB.fact 1 rfl) (aD.cons (aB.res 16 rfl) (aD.cons (aB.fact 0 rfl) (aD.cons (aB.fact 1 rfl) (aD.cons (aB.fact 3 rfl) (aD.cons (aB.fact 4 rfl) (aD.cons (aV (i:=17) (j:=18) rfl rfl cC) (aD.cons (aV (i:=14) (j:=15) rfl rfl bN) (aD.cons (aV (i:=0) (j:=1) rfl rfl cC) .nil)))))))))))) rfl (fun x134=>(mW [] rfl)) fun x134=>jqN rfl (cZ rfl rfl rfl rfl rfl)<|bG rfl (aR.cons 8 rfl .nil) .nil (eF 0 rfl rfl rfl rfl rfl) (aK.h (aR.ix [8] rfl rfl) .nil aK.z)<|bD 6 rfl rfl<|qkAnd rfl<|qkAsg rfl<|dtN<|sqR<|qkLdA 3 rfl<|qkMove rfl<|qkMove rfl<|bnE h fun r135 w136 h=>aF (aI.callQ PH (DF U  r135 w136) rfl .nil) rfl fun x137=>qkMove rfl<|qkExt rfl<|qkExt rfl<|bE 3 (vs:=[vI (r135.1.1),vI (r135.1.2.1),vI (r135.1.2.2.1),vI (r135.1.2.2.2.1),vU (r135.1.2.2.2.2)]) rfl rfl rfl rfl rfl rfl<|dtN<|sqR<|qkFld rfl<|qkLd 8 rfl<|qkMove rfl<|qkMove rfl<|qkLdA 3 rfl<|bnE h fun r138 w139 h=>aF (qU (vs:=[x131.1,vU (cD .u32 r132 a20.1),Value.agg #[vI (r135.1.1),vI (r135.1.2.1),vI (r135.1.2.2.1),vI (r135.1.2.2.2.1),vU (r135.1.2.2.2.2)]]) (cs:=[]) Tt rfl (Fl U x131.1 (List.zip x131.2 r129) r138 w139) rfl (aD.cons (aV (i:=0) (j:=1) rfl rfl cC) .nil) (fun _ _=>rfl)) rfl fun x140=>dtN<|sqR<|qkFld rfl<|qkLd 6 rfl<|qkMove rfl<|aF (bU (e:=gK) ([a122]) [(0,vU (a122))] rfl rfl rfl rfl (iJ (vU (a122)) rfl) rfl rfl rfl) rfl fun u141=>ckE h fun j143 h=>aF (dW 21 fJ rfl rfl rfl (aO (aB.res 0 rfl) fJ) rfl rfl rfl rfl j143 rfl) rfl fun u142=>qkFld rfl<|bM (Know.one ((aO (aB.res 21 rfl) fJ))) fun ho144=>eP 7 rfl rfl ho144 rfl rfl rfl<|dtN<|aM<|qkFld rfl<|qkLd 7 rfl<|qkMove rfl<|aF (bU (e:=gK) ([(cD .u32 r132 a20.1)]) [(0,vU (cD .u32 r132 a20.1))] rfl rfl rfl rfl (iJ (vU (cD .u32 r132 a20.1)) rfl) rfl rfl rfl) rfl fun u145=>ckE h fun j147 h=>aF (dW 4 fJ rfl rfl rfl (aO (aB.res 0 rfl) fJ) rfl rfl rfl rfl j147 rfl) rfl fun u146=>qkFld rfl<|bM (Know.one ((aO (aB.res 4 rfl) fJ))) fun ho148=>eP 8 rfl rfl ho148 rfl rfl rfl<|dN<|inT<|aM<|qkAdd rfl<|qkMove rfl<|dtN ?_
     exact kZ ((cD .u32 r132 a20.1),(a117.2.1++([(cD .u32 r132 a20.1)])),(wI .i64 (a117.2.2.1+(1:Int))),r135.1.1,r135.1.2.1,r135.1.2.2.1,r135.1.2.2.2.1,r135.1.2.2.2.2,r129,(a117.2.2.2.2.2.2.2.2.2++[a122])) (x131.1,x131.2,u142,u146) h SF (aR.ix [4,5,2,3,8,9,10,11,12,13,14,15,16,17,18,19,20,21,22] rfl rfl) (aD.refl _ _)
    refine fM ?_
    exact bT (a117.2.1,a117.2.2.2.1,a117.2.2.2.2.1,a117.2.2.2.2.2.1,a117.2.2.2.2.2.2.1,a117.2.2.2.2.2.2.2.1,a117.2.2.2.2.2.2.2.2.1,a117.2.2.2.2.2.2.2.2.2) (b118.1,b118.2.1,b118.2.2.1,b118.2.2.2) h SF (aR.ix [0,1,2,3,4,5,7,17,18] rfl rfl) (aD.refl _ _)
   intro a94 b95 h
   unfold sV at h
   refine aG ?_
   refine JR.start [0,0,1,5,15,31] 4 mixedOrders (by decide +kernel) ?_
   refine JR.open (by exact rfl) ?_
   refine jkMove rfl<|jkLdA 1 rfl<|jkFld rfl<|cB (Know.one (aB.sl (aV (i:=2) (j:=3) rfl rfl cC))) fun ho97=>sQ rfl rfl rfl (Gh 4 rfl rfl ho97 rfl rfl rfl) (fun x96=>(mW [([1],[])] rfl)) fun x96=>bD 4 rfl rfl<|qkFld rfl<|Kz (B_ 4 (us:=[vI (a94.2.1),vI (a94.2.2.1),vI (a94.2.2.2.1),vI (a94.2.2.2.2.1),vU (a94.2.2.2.2.2.1)]) rfl rfl rfl rfl rfl rfl rfl rfl rfl) fun x98=>dtN<|sqR<|qkLdA 4 rfl<|bM (Know.one ((aO (aB.res 8 rfl) fJ))) fun ho99=>bM (Know.one ((aO (aB.res 0 rfl) fJ))) fun ho100=>bM (Know.one (aB.sl (aV (i:=2) (j:=3) rfl rfl cC))) fun ho101=>bE 5 (vs:=[b95.2.2.1,b95.2.2.2,b95.1,vI (a94.2.1),vI (a94.2.2.1),vI (a94.2.2.2.1),vI (a94.2.2.2.2.1),vU (a94.2.2.2.2.2.1)]) rfl rfl (bY ho99 (bY ho100 (bY ho101 (bY rfl (bY rfl (bY rfl (bY rfl (bY rfl rfl)))))))) rfl rfl rfl<|qkAsg rfl<|dtN<|aQ ?_
   exact oL (a94.2.2.2.2.2.2.2,a94.1,a94.2.2.2.2.2.2.1,a94.2.1,a94.2.2.1,a94.2.2.2.1,a94.2.2.2.2.1,a94.2.2.2.2.2.1,(0:Int)) (b95.2.2.1,b95.2.2.2,b95.1,b95.2.1) h (.inl rfl) (Df.r2 rfl (RV.cell 5 rfl rfl rfl rfl) (RV.tmp rfl)) rfl (aR.ix [6,7,8,0,2,3] rfl rfl) (aD.refl _ _)
  intro a57 b58 h
  unfold wZ at h
  refine qkExt rfl<|qkExt rfl<|bM (Know.one ((aO (aB.res 2 rfl) fJ))) fun ho59=>bM (Know.one ((aO (aB.res 3 rfl) fJ))) fun ho60=>bM (Know.one (aB.sl (aV (i:=4) (j:=5) rfl rfl cC))) fun ho61=>bE 0 (vs:=[b58.1,b58.2.1,b58.2.2.1,vI (a57.2.2.2.1),vI (a57.2.2.2.2.1),vI (a57.2.2.2.2.2.1),vI (a57.2.2.2.2.2.2.1),vU (a57.2.2.2.2.2.2.2.1)]) rfl rfl (bY ho59 (bY ho60 (bY ho61 (bY rfl (bY rfl (bY rfl (bY rfl (bY rfl rfl)))))))) rfl rfl rfl<|qkAsg rfl<|dtN<|aQ ?_
  exact oL (a57.2.2.2.1,a57.2.2.2.2.1,a57.2.2.2.2.2.1,a57.2.2.2.2.2.2.1,a57.2.2.2.2.2.2.2.1,a57.2.2.2.2.2.2.2.2,a57.1,a57.2.1,a57.2.2.1) (b58.1,b58.2.1,b58.2.2.1,b58.2.2.2) h (.inl rfl) (Df.r2 rfl (RV.cell 0 rfl rfl rfl rfl) (RV.tmp rfl)) rfl (aR.ix [1,2,3,4,5] rfl rfl) (aD.refl _ _)
 intro a35 b36 h
 unfold Ay at h
 refine qkExt rfl<|qkExt rfl<|bM (Know.one ((aO (aB.res 1 rfl) fJ))) fun ho37=>bM (Know.one ((aO (aB.res 2 rfl) fJ))) fun ho38=>bM (Know.one (aB.sl (aV (i:=3) (j:=4) rfl rfl cC))) fun ho39=>bE 0 (vs:=[b36.1,b36.2.1,b36.2.2.1,vI (a35.1),vI (a35.2.1),vI (a35.2.2.1),vI (a35.2.2.2.1),vU (a35.2.2.2.2.1)]) rfl rfl (bY ho37 (bY ho38 (bY ho39 (bY rfl (bY rfl (bY rfl (bY rfl (bY rfl rfl)))))))) rfl rfl rfl<|qkAsg rfl<|dtN<|aQ ?_
 cases h
 exact iO (b36.1,b36.2.1,b36.2.2.1,b36.2.2.2) rfl rfl (RV.cell 0 rfl rfl rfl rfl) (RV.tmp rfl) (aR.ix [1,2,3,4] rfl rfl) aD.nil
end
end Go.Proofs.YtjlbcgddhnjcjaaGreatDoor
end
