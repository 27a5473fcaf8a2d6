/- Models and proofs. Conditions: none. -/
import Derived.Test.YtigggfnchamobaaGreatDoorZCDi5
import Derived.Test.YtigggfnchamobaaGreatDoorZCDi6
import Derived.Test.YtigggfnchamobaaGreatDoorZCDi7
import Derived.Test.YtigggfnchamobaaGreatDoorZCDi2
import Derived.Test.YtigggfnchamobaaGreatDoorZCDi1
import Derived.OpenShut
import Derived.LaidLaws
import Derived.LaidHandle
import Derived.Lay
import Derived.MakeChecks
set_option linter.unusedVariables false
set_option linter.unusedSimpArgs false
set_option maxHeartbeats 4000000
set_option maxRecDepth 20000
section
namespace Go.Proofs.YtigggfnchamobaaGreatDoor
open Go.Sx
def qZ  (a37:Ik):Option yX:=
 some (((a37.2.2.2.2.2.2.1,a37.2.2.2.2.2.2.2.1,a37.2.2.2.2.2.2.2.2,((a37.1,a37.2.1,a37.2.2.1,a37.2.2.2.1,a37.2.2.2.2.1)))),a37.2.2.2.2.2.1)
def mP  (a59:aL×aL×aX×Int×Int×Int×Int×Int×Int):Option yX:=
 qZ  (a59.2.2.2.1,a59.2.2.2.2.1,a59.2.2.2.2.2.1,a59.2.2.2.2.2.2.1,a59.2.2.2.2.2.2.2.1,a59.2.2.2.2.2.2.2.2,a59.1,a59.2.1,a59.2.2.1)
def jZ  (a96:aL×Int×Int×Int×Int×Int×aX×aL):Option yX:=
 mP  (a96.2.2.2.2.2.2.2,a96.1,a96.2.2.2.2.2.2.1,a96.2.1,a96.2.2.1,a96.2.2.2.1,a96.2.2.2.2.1,a96.2.2.2.2.2.1,(0:Int))
def q_ (U:Nat) (p0:rO) (p1:cM) (p2:Int) (p4:Int) (a20:Int×aL×eF×Int×aX) (a119:Int×aL×Int×Int×Int×Int×Int×Int×aX×aL) (ag118:(Int×aL×Int×Int×Int×Int×Int×Int×aX×aL)->Option yX) (a124:Int):Option yX:=
 if¬(a119.1≠(0:Int))then(jZ  (a119.2.1,a119.2.2.2.1,a119.2.2.2.2.1,a119.2.2.2.2.2.1,a119.2.2.2.2.2.2.1,a119.2.2.2.2.2.2.2.1,a119.2.2.2.2.2.2.2.2.1,a119.2.2.2.2.2.2.2.2.2))else(Option.bind (fE U a20.2.1 p2 a119.1 a124) fun r127=>(if(!r127)=true then(mP  (([]:aL),([]:aL),([]:aX),(0:Int),(0:Int),(0:Int),(0:Int),(0:Int),(11:Int)))else(Option.bind (gE U ((((p0.1,p0.2.1,p0.2.2)),((((p0.1,p0.2.1,p0.2.2)),((p1.1,p1.2)),a20.2.2.2.1,a20.2.2.2.2)),a20.2.2.1)) a119.2.2.2.2.2.2.2.2.1 a124) fun r131=>(Option.bind (cE U ((((p0.1,p0.2.1,p0.2.2)),((((p0.1,p0.2.1,p0.2.2)),((p1.1,p1.2)),a20.2.2.2.1,a20.2.2.2.2)),a20.2.2.1)) r131) fun r134=>(Option.bind (jA U ((a119.2.2.2.1,a119.2.2.2.2.1,a119.2.2.2.2.2.1,a119.2.2.2.2.2.2.1,a119.2.2.2.2.2.2.2.1)) a124 (cS .u32 r134 p4)) fun r137=>(Option.bind (qI U r131 (cS .u32 r134 p4) ((r137.1.1,r137.1.2.1,r137.1.2.2.1,r137.1.2.2.2.1,r137.1.2.2.2.2))) fun r140=>(ck ((List.length a119.2.2.2.2.2.2.2.2.2:Int)+(List.length ([a124]):Int)<=1099511627) (ck ((List.length a119.2.1:Int)+(List.length ([(cS .u32 r134 p4)]):Int)<=1099511627) (ag118 ((cS .u32 r134 p4),(a119.2.1++([(cS .u32 r134 p4)])),(wI .i64 (a119.2.2.1+(1:Int))),r137.1.1,r137.1.2.1,r137.1.2.2.1,r137.1.2.2.2.1,r137.1.2.2.2.2,r131,(a119.2.2.2.2.2.2.2.2.2++[a124])))))))))))
def kA (U:Nat) (p0:rO) (p1:cM) (p2:Int) (p4:Int) (p5:aL) (a20:Int×aL×eF×Int×aX) (a119:Int×aL×Int×Int×Int×Int×Int×Int×aX×aL) (ag118:(Int×aL×Int×Int×Int×Int×Int×Int×aX×aL)->Option yX):Option yX:=
 if a119.2.2.1<(List.length p5:Int)then(ck (0<=a119.2.2.1∧a119.2.2.1<(List.length p5:Int)) (Option.bind (fF U a20.2.1 p2 a119.1 (at' p5 a119.2.2.1)) fun r152=>(q_ U p0 p1 p2 p4 a20 a119 ag118 (r152))))else(jZ  (a119.2.1,a119.2.2.2.1,a119.2.2.2.2.1,a119.2.2.2.2.2.1,a119.2.2.2.2.2.2.1,a119.2.2.2.2.2.2.2.1,a119.2.2.2.2.2.2.2.2.1,a119.2.2.2.2.2.2.2.2.2))
def qY (U:Nat) (p0:rO) (p1:cM) (p2:Int) (p3:aX) (p4:Int) (p5:aL) (a20:Int×aL×eF×Int×aX):Option yX:=
 Option.bind (rD U p3) fun r67=>(Option.bind (cE U ((((p0.1,p0.2.1,p0.2.2)),((((p0.1,p0.2.1,p0.2.2)),((p1.1,p1.2)),a20.2.2.2.1,a20.2.2.2.2)),a20.2.2.1)) r67) fun r70=>(Option.bind (rX U (cS .u32 r70 p4)) fun r73=>(Option.bind (qI U r67 (cS .u32 r70 p4) ((r73.1,r73.2.1,r73.2.2.1,r73.2.2.2.1,r73.2.2.2.2))) fun r77=>(ck ((List.length ([]:aL):Int)+(List.length ([(cS .u32 r70 p4)]):Int)<=1099511627) (bE (kA U p0 p1 p2 p4 p5 a20) U ((cS .u32 r70 p4),(([]:aL)++([(cS .u32 r70 p4)])),(0:Int),r73.1,r73.2.1,r73.2.2.1,r73.2.2.2.1,r73.2.2.2.2,r67,([]:aL)))))))
def mQ (U:Nat) (p0:rO) (p1:cM) (p2:Int) (p3:aX) (p4:Int) (p5:aL) (a167:eF×Int×aX):Option yX:=
 Option.bind (oK U ((p1.1,p1.2))) fun r169=>(Option.bind (vA U ((p1.1,p1.2))) fun r172=>(qY U p0 p1 p2 p3 p4 p5 (r172,r169,a167.1,a167.2.1,a167.2.2)))
def mR (U:Nat) (p0:rO) (p1:cM) (p2:Int) (p3:aX) (p4:Int) (p5:aL) (a184:Int×aX):Option yX:=
 Option.bind (gT U ((p0.1,p0.2.1,p0.2.2)) ((p1.1,p1.2))) fun r186=>(mQ U p0 p1 p2 p3 p4 p5 (r186,a184.1,a184.2))
def j_ (U:Nat) (p0:rO) (p1:cM) (p2:Int) (p3:aX) (p4:Int) (p5:aL) (a200:Int×aX):Option yX:=
 mR U p0 p1 p2 p3 p4 p5 (a200.1,a200.2)
def mS (p1:cM) (a207:Int×Int×aX) (ag206:(Int×Int×aX)->Option yX) (a213:aX):Option yX:=
 ag206 ((wI .i64 (a207.1+(1:Int))),(max a207.2.1 (at' p1.1 a207.1)),a213)
def gX (U:Nat) (p1:cM) (a207:Int×Int×aX) (ag206:(Int×Int×aX)->Option yX) (a221:Int×aX) (ag220:(Int×aX)->Option yX):Option yX:=
 if a221.1<(List.length (at' p1.2 a207.1):Int)then(ck (0<=a221.1∧a221.1<(List.length (at' p1.2 a207.1):Int)) (ck (0<=a207.1∧a207.1<(List.length a221.2:Int)) (Option.bind (kX U ((p1.1,p1.2)) ((at' (at' p1.2 a207.1) a221.1).1) a207.1) fun r230=>(ck ((List.length (at' a221.2 a207.1):Int)+(List.length ([r230]):Int)<=1099511627) (ck (0<=a207.1∧a207.1<(List.length (List.set a221.2 (Int.toNat a207.1) ((at' a221.2 a207.1)++[r230])):Int)) (ag220 ((wI .i64 (a221.1+(1:Int))),(List.set a221.2 (Int.toNat a207.1) ((at' a221.2 a207.1)++[r230])))))))))else(mS p1 a207 ag206 (a221.2))
def eG (U:Nat) (p0:rO) (p1:cM) (p2:Int) (p3:aX) (p4:Int) (p5:aL) (a207:Int×Int×aX) (ag206:(Int×Int×aX)->Option yX):Option yX:=
 if a207.1<(List.length p1.2:Int)then(ck (0<=a207.1∧a207.1<(List.length p1.2:Int)) (ck (0<=a207.1∧a207.1<(List.length p1.1:Int)) (bE (gX U p1 a207 ag206) U ((0:Int),a207.2.2))))else(j_ U p0 p1 p2 p3 p4 p5 (a207.2.1,a207.2.2))
def kZ (U:Nat) (p0:rO) (p1:cM) (p2:Int) (p3:aX) (p4:Int) (p5:aL):Option yX:=
 Option.bind (vC U ((p0.1,p0.2.1,p0.2.2)) ((p1.1,p1.2)) p2 p3 (List.length p5:Int)) fun r4=>(if r4≠(0:Int)then(some (((([]:aL),([]:aL),([]:aX),(((0:Int),(0:Int),(0:Int),(0:Int),(0:Int))))),r4))else(ck (0<=(List.length p1.2:Int)∧(List.length p1.2:Int)<=1099511627) (bE (eG U p0 p1 p2 p3 p4 p5) U ((0:Int),(0:Int),(List.replicate (Int.toNat (List.length p1.2:Int)) ([]:aL))))))
theorem WS:aO Tryz.prog 36:=Tryz.call36
theorem Cq (U:Nat) {p0:rO} {p1:cM} {p2:Int} {p3:aX} {p4:Int} {p5:aL} (v0:Value)  (v1:Value)  (v2:Value)  (v3:Value)  (z4:mB)  (v5:Value)  (z6:pJ)  (v7:Value) (r:(aL×aL×aX×(Int×Int×Int×Int×Int))×Int) (h:kZ U p0 p1 p2 p3 p4 p5=some r):
  aT Tryz.prog 36 #[Value.agg #[vS (p0.1),v0,v1],Value.agg #[v2,v3],vI (p2),v5,vU (p4),v7] [Sl aG v0 p0.2.1,Sl aE v1 p0.2.2,PF (Value.agg #[vS p0.1,v0,v1]),Sl bD v2 p1.1,S2 aV v3 z4 p1.2,S2 bD v5 z6 p3,Sl yK v7 p5,Gb 0 (cellsOf CB rK)] (fun x:Ov=>Value.tuple #[Value.agg #[x.1,x.2.1,x.2.2.1,vI (r.1.2.2.2.1),vI (r.1.2.2.2.2.1),vI (r.1.2.2.2.2.2.1),vI (r.1.2.2.2.2.2.2.1),vU (r.1.2.2.2.2.2.2.2)],vI (r.2)]) (fun x l=>Ar jL x.1 r.1.1::Ar jL x.2.1 r.1.2.1::Ar cZ.raw x.2.2.1 x.2.2.2::jK bU x.2.2.2 r.1.2.2.1::l) (fun _ l=>l):=by
 refine aT.of Tryz.func36 rfl Tryz.ntmps36 rfl fun c=>?_
 refine sqR<|aF (aJ.box (cs:=[vS (p0.1),v0,v1]) rfl rfl) rfl fun b1=>aF (aJ.box (cs:=[v2,v3]) rfl rfl) rfl fun b2=>aF (aJ.alloc (cs:=Cu) rfl rfl) rfl fun b3=>qkAsg rfl<|dtN<|aI<|sqR<|qkLdA 2 rfl<|qkLdA 1 rfl<|qkMove rfl<|qkMove rfl<|qkMove rfl<|qkLen (aC.fact 6 rfl) rfl<|bnE h fun r4 w5 h=>aF (aJ.callQ WY (Lo U v0 v1 v2 v3 z4 v5 z6 r4 w5) rfl (oI [0,1,2,3,4,5] rfl)) rfl fun x6=>qkAsg rfl<|dtN<|sqR<|qkMove rfl<|qkNeq rfl<|dtN ?_
 refine eB h rfl (fun h=>?_) fun h=>?_
 ·refine sqR ?_
  refine aB (FL (r:=Value.agg #[kK,kK,kK,vI (0:Int),vI (0:Int),vI (0:Int),vI (0:Int),vU (0:Int)]) (by intro w;simp[Instr.build,Instr.fill,dA,cN,cF,dB,dC,cO,d_])) rfl ?_
  refine qkMove rfl<|bH 0 (vs:=Cu) rfl rfl rfl rfl rfl rfl<|qkAsg rfl<|dtN<|aP<|aH<|jN (iL jL)<|jN (iL jL)<|jN (iL cZ.raw) (jN (xH bU) ?_)
  cases h
  exact iZ ((kK),(kK),(kK),([]:fJ)) rfl rfl (RV.cell 4 rfl rfl rfl rfl) (RV.tmp rfl) (aQ.ix [2,3,1,0] rfl rfl) aD.nil
 refine cI<|sqR<|qkLdA 2 rfl<|qkLdA 1 rfl<|qkMove rfl<|xS (A:=Int×aL×eF×Int×aX) (B:=Nat×Value×Nat×Value×List Value×Value×List Value) (vs:=[Value.agg #[vS (p0.1),v0,v1],Value.agg #[v2,v3],vI (p2),Value.func (.func 53) #[] #[]]) (fun a20=>qY U p0 p1 p2 p3 p4 p5 a20=some r) (fun a20 b21=>Value.agg #[vP b21.1,b21.2.1,vI (p2),vU (a20.1),Value.func (.func 53) #[] #[]]) (fun a20 b21=>[Ar jL b21.2.1 a20.2.1,bM b21.1 [vS (p0.1),v0,v1,vP b21.2.2.1,b21.2.2.2.1] 140,Ar cZ.raw b21.2.2.2.1 b21.2.2.2.2.1,jK bS b21.2.2.2.2.1 a20.2.2.1,bM b21.2.2.1 [vS (p0.1),v0,v1,v2,v3,vI (a20.2.2.2.1),b21.2.2.2.2.2.1] 178,Ar cZ.raw b21.2.2.2.2.2.1 b21.2.2.2.2.2.2,jK bU b21.2.2.2.2.2.2 a20.2.2.2.2,bM b3 Cu 44]) (fun a20 b21=>[Sl aG v0 p0.2.1,Sl aE v1 p0.2.2,PF (Value.agg #[vS p0.1,v0,v1]),Sl bD v2 p1.1,S2 aV v3 z4 p1.2,S2 bD v5 z6 p3,Sl yK v7 p5,Gb 0 (cellsOf CB rK)]) (sL.fn (show aO Tryz.prog 52 from Tryz.call52) rfl) Tryz.func52 rfl Tryz.ntmps52 rfl rfl ?_ ?_
 ·refine sqR<|aF (aJ.box (cs:=[vS (p0.1),v0,v1]) rfl rfl) rfl fun b155=>aF (aJ.box (cs:=[v2,v3]) rfl rfl) rfl fun b156=>aF (aJ.alloc (cs:=Wp) rfl rfl) rfl fun b157=>dtN<|aI ?_
  refine JR.start [0,0,3,0,15,0,0,95,0,511,1023] 9 mixedOrders (by decide +kernel) ?_
  refine JR.open (by exact rfl) ?_
  refine jkLdA 2 rfl<|jkLdA 1 rfl<|IC (A:=eF×Int×aX) (B:=Nat×Nat×Value×List Value×Value×List Value) (vs:=[Value.agg #[vS (p0.1),v0,v1],Value.agg #[v2,v3]]) (fun a167=>mQ U p0 p1 p2 p3 p4 p5 a167=some r) (fun a167 b168=>vP b168.1) (fun a167 b168=>[bM b168.1 [vS (p0.1),v0,v1,vP b168.2.1,b168.2.2.1] 140,Ar cZ.raw b168.2.2.1 b168.2.2.2.1,jK bS b168.2.2.2.1 a167.1,bM b168.2.1 [vS (p0.1),v0,v1,v2,v3,vI (a167.2.1),b168.2.2.2.2.1] 178,Ar cZ.raw b168.2.2.2.2.1 b168.2.2.2.2.2,jK bU b168.2.2.2.2.2 a167.2.2,bM b157 Wp 97,bM b156 [v2,v3] 28,bM b155 [vS (p0.1),v0,v1] 33,bM b3 Cu 44]) (fun a167 b168=>[Sl aG v0 p0.2.1,Sl aE v1 p0.2.2,PF (Value.agg #[vS p0.1,v0,v1]),Sl bD v2 p1.1,S2 aV v3 z4 p1.2,S2 bD v5 z6 p3,Sl yK v7 p5,Gb 0 (cellsOf CB rK)]) rfl rfl rfl (sL.fn (show aO Tryz.prog 56 from Tryz.call56) rfl) Tryz.func56 rfl Tryz.ntmps56 rfl rfl (fun _ _=>(rA [] rfl)) ?_ ?_
  ·refine sqR<|aF (aJ.box (cs:=[vS (p0.1),v0,v1]) rfl rfl) rfl fun b177=>aF (aJ.box (cs:=[v2,v3]) rfl rfl) rfl fun b178=>qkAsg rfl<|dtN<|aI ?_
   refine JR.start [0,0,0,6,0,0,62,127,255,511] 7 mixedOrders (by decide +kernel) ?_
   refine JR.open (by exact rfl) ?_
   refine jkLdA 1 rfl<|jkLdA 1 rfl<|jkLdA 0 rfl<|IC (A:=Int×aX) (B:=Nat×Value×List Value) (vs:=[Value.agg #[vS (p0.1),v0,v1],Value.agg #[v2,v3]]) (fun a184=>mR U p0 p1 p2 p3 p4 p5 a184=some r) (fun a184 b185=>vP b185.1) (fun a184 b185=>[bM b185.1 [vS (p0.1),v0,v1,v2,v3,vI (a184.1),b185.2.1] 178,Ar cZ.raw b185.2.1 b185.2.2,jK bU b185.2.2 a184.2,bM b178 [v2,v3] 28,bM b177 [vS (p0.1),v0,v1] 33,bM b157 Wp 97,bM b156 [v2,v3] 28,bM b155 [vS (p0.1),v0,v1] 33,bM b3 Cu 44]) (fun a184 b185=>[Sl aG v0 p0.2.1,Sl aE v1 p0.2.2,PF (Value.agg #[vS p0.1,v0,v1]),Sl bD v2 p1.1,S2 aV v3 z4 p1.2,S2 bD v5 z6 p3,Sl yK v7 p5,Gb 0 (cellsOf CB rK)]) rfl rfl rfl (sL.fn (show aO Tryz.prog 84 from Tryz.call84) rfl) Tryz.func84 rfl Tryz.ntmps84 rfl rfl (fun _ _=>(rA [([4],[])] rfl)) ?_ ?_
   ·refine sqR<|aF (aJ.box (cs:=[vS (p0.1),v0,v1]) rfl rfl) rfl fun b191=>aF (aJ.box (cs:=[v2,v3]) rfl rfl) rfl fun b192=>qkAsg rfl<|dtN<|aI ?_
    refine JR.start [0,0,0,4,12,28,63,127,255] 6 mixedOrders (by decide +kernel) ?_
    refine JR.open (by exact rfl) ?_
    refine jkLdA 1 rfl<|jkLdA 0 rfl<|jkFld rfl<|jkLd 0 rfl<|bG rfl .nil (mJ 4 rfl) (iM rfl (aC.fact 0 rfl) rfl) aK.z<|ckE h fun j193 h=>JR.stp (sN bU (Int.toNat (List.length p1.2:Int)))<|JR.loud rfl rfl rfl (nT (e:=cZ.raw) (kK) rfl rfl rfl rfl j193 rfl rfl rfl) rfl (fun u194=>(rA [([2],[]),([3],[])] rfl)) fun u194=>bO 6 rfl rfl<|bQ (Know.one (aC.sl (bF (i:=0) (j:=1) rfl rfl cP))) fun ho195=>?_
    refine aB (IG (r:=Value.agg #[vS (p0.1),v0,v1,v2,v3,vI (0:Int),u194]) rfl rfl rfl (by intro w;simp[Instr.build,Instr.fill,dA,cN,cF,dB,dC,cO,d_,gK ho195])) rfl ?_
    refine aF (aJ.box (cs:=[vS (p0.1),v0,v1,v2,v3,vI (0:Int),u194]) rfl rfl) rfl fun b196=>qkAsg rfl<|dtN<|aI<|midL (B:=fJ) (fun a200=>j_ U p0 p1 p2 p3 p4 p5 a200=some r) (fun a200 b201=>[(5,vP b196)]) (fun a200 b201=>[bM b196 [vS (p0.1),v0,v1,v2,v3,vI (a200.1),u194] 178,Ar cZ.raw u194 b201,jK bU b201 a200.2,bM b178 [v2,v3] 28,bM b177 [vS (p0.1),v0,v1] 33,bM b157 Wp 97,bM b156 [v2,v3] 28,bM b155 [vS (p0.1),v0,v1] 33,bM b3 Cu 44]) ?_ ?_
    ·refine sqR<|qkFld rfl<|qkLd 3 rfl<|aB (iM rfl (aC.fact 4 rfl) rfl) rfl<|qkMove rfl<|dtN<|aN<|loopL (B:=fJ) (eG U p0 p1 p2 p3 p4 p5) (fun a207 b208=>[(3,vP b192),(5,vP b196),(19,v3),(20,vI (List.length p1.2:Int)),(21,vI (a207.1))]) (fun a207 b208=>[bM b196 [vS (p0.1),v0,v1,v2,v3,vI (a207.2.1),u194] 178,Ar cZ.raw u194 b208,jK bU b208 a207.2.2,bM b192 [v2,v3] 28,bM b178 [v2,v3] 28,bM b177 [vS (p0.1),v0,v1] 33,bM b157 Wp 97,bM b156 [v2,v3] 28,bM b155 [vS (p0.1),v0,v1] 33,bM b3 Cu 44]) ((0:Int),(0:Int),(List.replicate (Int.toNat (List.length p1.2:Int)) ([]:aL))) (List.replicate (Int.toNat (List.length p1.2:Int)) (kK)) h SF (aQ.ix [0,1,2,3,5,6,7,8,9,10] rfl rfl) ?_
     intro k209 a207 b208 h
     refine sqR<|qkLss rfl<|dtN<|aI ?_
     refine eB h rfl (fun h=>?_) fun h=>?_
     ·refine cI<|aI<|midL (B:=fJ) (fun a213=>mS p1 a207 (bE (eG U p0 p1 p2 p3 p4 p5) k209) a213=some r) (fun a213 b214=>[(3,vP b192),(5,vP b196),(19,v3),(20,vI (List.length p1.2:Int)),(21,vI (a207.1))]) (fun a213 b214=>[bM b196 [vS (p0.1),v0,v1,v2,v3,vI (max a207.2.1 (at' p1.1 a207.1)),u194] 178,Ar cZ.raw u194 b214,jK bU b214 a213,bM b192 [v2,v3] 28,bM b178 [v2,v3] 28,bM b177 [vS (p0.1),v0,v1] 33,bM b157 Wp 97,bM b156 [v2,v3] 28,bM b155 [vS (p0.1),v0,v1] 33,bM b3 Cu 44]) ?_ ?_
      ·refine aN<|sqR<|qkMove rfl<|ckE h fun j215 h=>aB (cK rfl rfl (aC.fact 4 rfl) rfl rfl j215) rfl<|aB (cJ rfl (aC.fact 4 rfl) rfl rfl j215) rfl<|qkAsg rfl<|qkAsg rfl<|dtN<|aI ?_
       refine JR.start [0,0,2,6,14,0,32,0,224,480,1022,2047,4095,8191] 11 mixedOrders (by decide +kernel) ?_
       refine JR.open (by exact rfl) ?_
       refine jkMove rfl<|jkMove rfl<|jqN rfl (bN rfl)<|jkFld rfl<|jkLd 0 rfl<|jkFld rfl<|jkLd 3 rfl<|jkMove rfl<|ckE h fun j216 h=>bG rfl .nil (mJ 3 rfl) (aY rfl rfl (aC.fact 0 rfl) rfl rfl j216) aK.z<|bG rfl .nil (mJ 3 rfl) (bT rfl (aC.fact 0 rfl) rfl rfl rfl dO j216) aK.z<|jqN rfl (HE rfl rfl)<|bO 11 rfl rfl<|aB (bN rfl) rfl<|qkFld rfl<|eK 0 rfl rfl rfl rfl rfl rfl<|dtN<|sqR<|qkMove rfl<|aB (fR rfl (aC.el (aC.fact 4 rfl) j215.1 j215.2) rfl) rfl<|qkMove rfl<|dtN<|aN<|loopL (B:=fJ) (gX U p1 a207 (bE (eG U p0 p1 p2 p3 p4 p5) k209)) (fun a221 b222=>[(3,vP b192),(5,vP b196),(6,vI (a207.1)),(19,v3),(20,vI (List.length p1.2:Int)),(21,vI (a207.1)),(39,(at' z4 a207.1).1),(40,vI (List.length (at' p1.2 a207.1):Int)),(41,vI (a221.1))]) (fun a221 b222=>[bM b196 [vS (p0.1),v0,v1,v2,v3,vI (max a207.2.1 (at' p1.1 a207.1)),u194] 178,Ar cZ.raw u194 b222,jK bU b222 a221.2,bM b192 [v2,v3] 28,bM b178 [v2,v3] 28,bM b177 [vS (p0.1),v0,v1] 33,bM b157 Wp 97,bM b156 [v2,v3] 28,bM b155 [vS (p0.1),v0,v1] 33,bM b3 Cu 44]) ((0:Int),a207.2.2) (b208) h SF (aQ.refl _) ?_
       intro k223 a221 b222 h
       refine sqR<|qkLss rfl<|dtN<|aI ?_
       refine eB h rfl (fun h=>?_) fun h=>?_
       ·refine cI<|aI<|aN<|sqR<|ckE h fun j225 h=>aB (aY rfl rfl (aC.el (aC.fact 4 rfl) j215.1 j215.2) rfl rfl j225) rfl<|aB (fL (cs:=[vI ((at' (at' p1.2 a207.1) a221.1).1),vI ((at' (at' p1.2 a207.1) a221.1).2)]) rfl (aC.el (aC.fact 4 rfl) j215.1 j215.2) bJ rfl rfl rfl rfl j225) rfl<|aF (aJ.alloc (cs:=LN) rfl rfl) rfl fun b226=>bH 0 (vs:=[vI ((at' (at' p1.2 a207.1) a221.1).1),vI ((at' (at' p1.2 a207.1) a221.1).2)]) rfl rfl rfl rfl rfl rfl<|dtN ?_
        refine JR.start [0,1,3,7,0,0,32,96,224,0,992,2016,0,0,8192,0,61440,126976,262112,524287,1048575] 19 mixedOrders (by decide +kernel) ?_
        refine JR.open (by exact rfl) ?_
        refine jkMove rfl<|jqN rfl (bN rfl)<|jkFld rfl<|jkLd 1 rfl<|jkMove rfl<|jkMove rfl<|jqN rfl (bN rfl)<|jkFld rfl<|jkLd 1 rfl<|jkMove rfl<|ckE h fun j227 h=>bZ (bW 3 rfl) fun hl228=>?_
        refine bG rfl (aQ.cons 2 rfl .nil) .nil (fH 0 rfl rfl rfl rfl rfl j227.1 (by have q1:=j227.2;have q2:=hl228;(try simp only[List.length_set]at q1);(try simp only[List.length_set]at q2);(try simp only[List.length_set]);omega)) aK.z ?_
        refine bZ (bW 3 rfl) fun hl229=>bG rfl (aQ.cons 2 rfl .nil) .nil (jO 0 rfl rfl hl229 rfl rfl j227) aK.z<|jkLdA 4 rfl<|jkFld rfl<|jkLd 0 rfl<|jkMove rfl<|bnE h fun r230 w231 h=>JR.loud rfl rfl rfl (aJ.callQ Nu (AY U v2 v3 z4 r230 w231) rfl (oI [3,4] rfl)) rfl (fun x232=>(rA [([2],[]),([2],[]),([1],[]),([1],[])] rfl)) fun x232=>JR.loud rfl rfl rfl (bX (e:=bU) ([r230]) [(0,vI (r230))] rfl rfl rfl rfl (lX (vI (r230)) rfl) rfl rfl rfl) rfl (fun u233=>(rA [([3],[]),([3],[]),([2],[]),([2],[])] rfl)) fun u233=>ckE h fun j235 h=>JR.loud rfl rfl rfl (lK 4 cP rfl rfl rfl (aU (aC.res 0 rfl) cP) rfl rfl rfl rfl j227 j235 rfl) rfl (fun u234=>(rA [([2],[])] rfl)) fun u234=>bO 19 rfl rfl<|ckE h fun j236 h=>bQ (bW 4 rfl) fun hl237=>?_
        refine aB (fH 3 rfl rfl rfl rfl rfl j236.1 (by have q1:=j236.2;have q2:=hl237;(try simp only[List.length_set]at q1);(try simp only[List.length_set]at q2);(try simp only[List.length_set]);omega)) rfl ?_
        refine bQ (uV 4 (k:=a207.1) rfl ⟨j236.1,by first|exact j236.2|simpa using j236.2⟩) fun ho238=>?_
        refine mD 3 4 ⟨j236.1,by first|exact j236.2|simpa using j236.2⟩ rfl rfl rfl rfl rfl (by simp) ho238 rfl ?_
        refine dY<|inT<|aM<|qkAdd rfl<|qkMove rfl<|dtN ?_
        exact lS ((wI .i64 (a221.1+(1:Int))),(List.set a221.2 (Int.toNat a207.1) ((at' a221.2 a207.1)++[r230]))) (List.set b222 (Int.toNat a207.1) u234) h SF (aQ.ix [2,3,4,5,6,7,8,9,10,11] rfl rfl) (aD.refl _ _)
       refine oY<|dH<|dH<|tS<|inT ?_
       exact jV (a221.2) (b222) h SF rfl
      intro a213 b214 h
      unfold mS at h
      refine aM<|qkAdd rfl<|qkMove rfl<|dtN ?_
      exact yF ((wI .i64 (a207.1+(1:Int))),(max a207.2.1 (at' p1.1 a207.1)),a213) (b214) h SF rfl
     refine Go.Sx.vT ?_
     exact bY (a207.2.1,a207.2.2) (b208) h SF (aQ.ix [0,1,2,4,5,6,7,8,9] rfl rfl) (aD.refl _ _)
    intro a200 b201 h
    unfold j_ at h
    refine sqR<|qkMove rfl<|qkAsg rfl<|dtN<|aP ?_
    exact sW (a200.1,a200.2) (b196,u194,b201) h (.inl rfl) (CK.r1 rfl (RV.tmp rfl)) rfl (aQ.refl _) (aD.refl _ _)
   intro a184 b185 h
   unfold mR at h
   refine bG rfl (aQ.cons 4 rfl .nil) .nil (iN 0 rfl rfl rfl rfl) (aK.h (aQ.ix [1] rfl rfl) .nil aK.z)<|bG rfl (aQ.cons 3 rfl .nil) .nil (iN 0 rfl rfl rfl rfl) (aK.h (aQ.ix [0] rfl rfl) .nil aK.z)<|bnE h fun r186 w187 h=>JR.loud rfl rfl rfl (aJ.callQ Mm (w_ U v0 v1 v2 v3 z4 r186 w187) rfl (oI [0,1,2,3,4] rfl)) rfl (fun x188=>(rA [([6],[])] rfl)) fun x188=>bO 7 rfl rfl<|bQ (Know.one (aC.sl (bF (i:=0) (j:=1) rfl rfl bJ))) fun ho189=>?_
   refine aB (IG (r:=Value.agg #[vS (p0.1),v0,v1,Value.pointer (some ⟨b185.1,0,none⟩),x188.1]) rfl rfl rfl (by intro w;simp[Instr.build,Instr.fill,dA,cN,cF,dB,dC,cO,d_,gK ho189])) rfl ?_
   refine aF (aJ.box (cs:=[vS (p0.1),v0,v1,vP b185.1,x188.1]) rfl rfl) rfl fun b190=>qkAsg rfl<|dtN<|aP ?_
   exact sW (r186,a184.1,a184.2) (b190,b185.1,x188.1,x188.2,b185.2.1,b185.2.2) h (.inl rfl) (CK.r1 rfl (RV.tmp rfl)) rfl (aQ.ix [0,1,2,3,4,5,8,9,10,11] rfl rfl) (aD.refl _ _)
  intro a167 b168 h
  unfold mQ at h
  refine bG rfl (aQ.cons 7 rfl .nil) .nil (iN 0 rfl rfl rfl rfl) (aK.h (aQ.ix [1] rfl rfl) .nil aK.z)<|bnE h fun r169 w170 h=>JR.loud rfl rfl rfl (aJ.callQ Xe (EQ U v2 v3 z4 r169 w170) rfl (oI [3,4] rfl)) rfl (fun x171=>(rA [] rfl)) fun x171=>jqN rfl (kM rfl)<|bG rfl (aQ.cons 8 rfl .nil) .nil (iN 0 rfl rfl rfl rfl) (aK.h (aQ.ix [7] rfl rfl) .nil (aK.h (aQ.ix [1] rfl rfl) .nil aK.z))<|bnE h fun r172 w173 h=>JR.loud rfl rfl rfl (aJ.callQ WW (Ln U v2 v3 z4 r172 w173) rfl (oI [3,4] rfl)) rfl (fun x174=>(rA [] rfl)) fun x174=>jqN rfl (kM rfl)<|bO 9 rfl rfl<|bQ (Know.one ((aU (aC.res 0 rfl) nQ))) fun ho175=>?_
  refine aB (Y.bld5 (r:=Value.agg #[Value.pointer (some ⟨b168.1,0,none⟩),x171,vI (p2),vU (r172),Value.func (.func 53) #[] #[]]) rfl rfl rfl rfl rfl (by intro w;simp[Instr.build,Instr.fill,dA,cN,cF,dB,dC,cO,d_,gK ho175])) rfl ?_
  refine bQ (Know.one ((aU (aC.res 0 rfl) nQ))) fun ho176=>bH 7 (vs:=[vP b168.1,x171,vI (p2),vU (r172),Value.func (.func 53) #[] #[]]) rfl rfl (dK rfl (dK ho176 (dK rfl (dK rfl (dK rfl rfl))))) rfl rfl rfl<|dtN<|aP ?_
  exact sW (r172,r169,a167.1,a167.2.1,a167.2.2) (b168.1,x171,b168.2.1,b168.2.2.1,b168.2.2.2.1,b168.2.2.2.2.1,b168.2.2.2.2.2) h (.inl rfl) (CK.r1 rfl (RV.cell 7 rfl rfl rfl rfl)) rfl (aQ.ix [0,1,2,3,4,5,6,10] rfl rfl) (aD.refl _ _)
 intro a20 b21 h
 refine aF (aJ.alloc (cs:=Wp) rfl rfl) rfl fun b22=>bQ (Know.one ((aU (aC.res 1 rfl) nQ))) fun ho23=>bH 0 (vs:=[vP b21.1,b21.2.1,vI (p2),vU (a20.1),Value.func (.func 53) #[] #[]]) rfl rfl (dK rfl (dK ho23 (dK rfl (dK rfl (dK rfl rfl))))) rfl rfl rfl<|dtN<|sqR<|qkMove rfl<|qkFld rfl<|eK 0 rfl rfl rfl rfl rfl rfl<|dtN<|sqR<|qkLdA 0 rfl<|qkMove rfl<|qkMove rfl<|xS (A:=Ik) (B:=Ov) (vs:=[Value.agg #[vP b21.1,b21.2.1,vI (p2),vU (p4),Value.func (.func 53) #[] #[]],v5,v7]) (fun a37=>qZ  a37=some r) (fun a37 b38=>Value.tuple #[Value.agg #[b38.1,b38.2.1,b38.2.2.1,vI (a37.1),vI (a37.2.1),vI (a37.2.2.1),vI (a37.2.2.2.1),vU (a37.2.2.2.2.1)],vI (a37.2.2.2.2.2.1)]) (fun a37 b38=>[bM b3 Cu 44,Ar jL b38.1 a37.2.2.2.2.2.2.1,Ar jL b38.2.1 a37.2.2.2.2.2.2.2.1,Ar cZ.raw b38.2.2.1 b38.2.2.2,jK bU b38.2.2.2 a37.2.2.2.2.2.2.2.2]) (fun a37 b38=>[Sl aG v0 p0.2.1,Sl aE v1 p0.2.2,PF (Value.agg #[vS p0.1,v0,v1]),Sl bD v2 p1.1,S2 aV v3 z4 p1.2,S2 bD v5 z6 p3,Sl yK v7 p5,Gb 0 (cellsOf CB rK)]) (sL.fn (show aO Tryz.prog 54 from Tryz.call54) rfl) Tryz.func54 rfl Tryz.ntmps54 rfl rfl ?_ ?_
 ·refine sqR<|aF (aJ.box (cs:=[vP b21.1,b21.2.1,vI (p2),vU (p4),Value.func (.func 53) #[] #[]]) rfl rfl) rfl fun b42=>bQ (Know.one ((aC.fact 6 rfl))) fun ho44=>?_
  refine aF (aJ.box (cs:=[v7]) rfl (by rw[gK ho44])) rfl fun b43=>?_
  refine aF (aJ.alloc (cs:=Cu) rfl rfl) rfl fun b45=>qkAsg rfl<|dtN<|sqR<|qkLdA 2 rfl<|qkMove rfl<|qkLd 1 rfl<|qkLen (aC.fact 6 rfl) rfl<|aB (t_ (cs:=[.tmp 3,.tmp 5]) (vs:=[vP b42,vP b43]) rfl) rfl<|xS (A:=aL×aL×aX×Int×Int×Int×Int×Int×Int) (B:=Ov) (vs:=[Value.agg #[vP b21.1,b21.2.1,vI (p2),vU (p4),Value.func (.func 53) #[] #[]],v5,vI (List.length p5:Int),Value.func (.func 82) #[] #[vP b42,vP b43]]) (fun a59=>mP  a59=some r) (fun a59 b60=>Value.tuple #[Value.agg #[b60.1,b60.2.1,b60.2.2.1,vI (a59.2.2.2.1),vI (a59.2.2.2.2.1),vI (a59.2.2.2.2.2.1),vI (a59.2.2.2.2.2.2.1),vU (a59.2.2.2.2.2.2.2.1)],vI (a59.2.2.2.2.2.2.2.2)]) (fun a59 b60=>[bM b45 Cu 44,bM b3 Cu 44,Ar jL b60.1 a59.1,Ar jL b60.2.1 a59.2.1,Ar cZ.raw b60.2.2.1 b60.2.2.2,jK bU b60.2.2.2 a59.2.2.1]) (fun a59 b60=>[Sl aG v0 p0.2.1,Sl aE v1 p0.2.2,PF (Value.agg #[vS p0.1,v0,v1]),Sl bD v2 p1.1,S2 aV v3 z4 p1.2,S2 bD v5 z6 p3,Sl yK v7 p5,Gb 0 (cellsOf CB rK)]) (sL.fn (show aO Tryz.prog 81 from Tryz.call81) rfl) Tryz.func81 rfl Tryz.ntmps81 rfl rfl ?_ ?_
  ·refine sqR<|aF (aJ.box (cs:=[vP b21.1,b21.2.1,vI (p2),vU (p4),Value.func (.func 53) #[] #[]]) rfl rfl) rfl fun b64=>aF (aJ.alloc (cs:=Cu) rfl rfl) rfl fun b65=>qkAsg rfl<|dtN<|sqR<|aF (aJ.alloc (cs:=Cu) rfl rfl) rfl fun b66=>dtN<|sqR<|qkMove rfl<|bnE h fun r67 w68 h=>aF (aJ.callQ Nt (BV U v5 z6 r67 w68) rfl (oI [5] rfl)) rfl fun x69=>qkAsg rfl<|dtN<|aI ?_
   refine JR.start [0,1,0,7,0,16,63,127] 6 mixedOrders (by decide +kernel) ?_
   refine JR.open (by exact rfl) ?_
   refine jkFld rfl<|jkLd 4 rfl<|jkMove rfl<|bnE h fun r70 w71 h=>JR.loud rfl rfl rfl (aJ.callQ Ml (nP U b21.1 v0 v1 b21.2.2.1 v0 v1 v2 v3 z4 b21.2.2.2.2.2.1 (List.zip b21.2.2.2.2.2.2 a20.2.2.2.2) b21.2.2.2.1 (List.zip b21.2.2.2.2.1 a20.2.2.1) x69.1 (List.zip x69.2 r67) r70 w71) rfl (aD.cons (aC.res 10 rfl) (aD.cons (aC.fact 0 rfl) (aD.cons (aC.fact 1 rfl) (aD.cons (aC.res 13 rfl) (aD.cons (aC.fact 0 rfl) (aD.cons (aC.fact 1 rfl) (aD.cons (aC.fact 3 rfl) (aD.cons (aC.fact 4 rfl) (aD.cons (bF (i:=14) (j:=15) rfl rfl cP) (aD.cons (bF (i:=11) (j:=12) rfl rfl bJ) (aD.cons (bF (i:=0) (j:=1) rfl rfl cP) .nil)))))))))))) rfl (fun x72=>(rA [] rfl)) fun x72=>jqN rfl (c_ rfl rfl rfl rfl rfl)<|bG rfl (aQ.cons 4 rfl .nil) .nil (dX 0 rfl rfl rfl rfl rfl) (aK.h (aQ.ix [4] rfl rfl) .nil aK.z)<|bO 6 rfl rfl<|qkAnd rfl<|qkAsg rfl<|dtN<|sqR<|qkMove rfl<|bnE h fun r73 w74 h=>aF (aJ.callQ Uj (EN U  r73 w74) rfl .nil) rfl fun x75=>aF (aJ.alloc (cs:=Tm) rfl rfl) rfl fun b76=>bH 0 (vs:=[vI (r73.1),vI (r73.2.1),vI (r73.2.2.1),vI (r73.2.2.2.1),vU (r73.2.2.2.2)]) rfl rfl rfl rfl rfl rfl<|dtN<|sqR<|qkFld rfl<|qkLd 5 rfl<|qkMove rfl<|qkMove rfl<|qkLdA 0 rfl<|bnE h fun r77 w78 h=>aF (pN (vs:=[x69.1,vU (cS .u32 r70 p4),Value.agg #[vI (r73.1),vI (r73.2.1),vI (r73.2.2.1),vI (r73.2.2.2.1),vU (r73.2.2.2.2)]]) (cs:=[]) QY rfl (Dy U x69.1 (List.zip x69.2 r67) r77 w78) rfl (aD.cons (bF (i:=1) (j:=2) rfl rfl cP) .nil) (fun _ _=>rfl)) rfl fun x79=>dtN<|sqR<|qkFld rfl<|qkLd 3 rfl<|qkMove rfl<|aF (bX (e:=jL) ([(cS .u32 r70 p4)]) [(0,vU (cS .u32 r70 p4))] rfl rfl rfl rfl (lX (vU (cS .u32 r70 p4)) rfl) rfl rfl rfl) rfl fun u80=>jN (iL jL)<|ckE h fun j82 h=>aF (fT 0 nQ rfl rfl rfl (aU (aC.res 1 rfl) nQ) rfl rfl rfl rfl j82 rfl) rfl fun u81=>qkFld rfl<|bQ (Know.one ((aU (aC.res 0 rfl) nQ))) fun ho83=>eK 5 rfl rfl ho83 rfl rfl rfl<|dtN<|aI<|midL (B:=Value×List Value×Value×Value) (fun a96=>jZ  a96=some r) (fun a96 b97=>[(1,b97.1),(8,vP b65),(10,vP b66),(12,vP b76)]) (fun a96 b97=>[Ar jL b97.2.2.2 a96.1,bM b76 [vI (a96.2.1),vI (a96.2.2.1),vI (a96.2.2.2.1),vI (a96.2.2.2.2.1),vU (a96.2.2.2.2.2.1)] 42,Ar cZ.raw b97.1 b97.2.1,jK bU b97.2.1 a96.2.2.2.2.2.2.1,bM b66 [b97.2.2.1,b97.2.2.2,kK,vI (0:Int),vI (0:Int),vI (0:Int),vI (0:Int),vU (0:Int)] 44,bM b65 Cu 44,bM b45 Cu 44,bM b3 Cu 44,Ar jL b97.2.2.1 a96.2.2.2.2.2.2.2]) ?_ ?_
   ·refine sqR<|qkMove rfl<|qkMove rfl<|dtN<|aN<|jN (iL jL)<|loopL (B:=Value×List Value×Value×Value) (kA U p0 p1 p2 p4 p5 a20) (fun a119 b120=>[(1,b120.1),(3,Value.func (.func 82) #[] #[vP b42,vP b43]),(4,vP b64),(8,vP b65),(10,vP b66),(11,vU (a119.1)),(12,vP b76),(39,vI (List.length p5:Int)),(40,vI (a119.2.2.1))]) (fun a119 b120=>[Ar jL b120.2.2.2 a119.2.1,bM b76 [vI (a119.2.2.2.1),vI (a119.2.2.2.2.1),vI (a119.2.2.2.2.2.1),vI (a119.2.2.2.2.2.2.1),vU (a119.2.2.2.2.2.2.2.1)] 42,Ar cZ.raw b120.1 b120.2.1,jK bU b120.2.1 a119.2.2.2.2.2.2.2.2.1,bM b66 [b120.2.2.1,b120.2.2.2,kK,vI (0:Int),vI (0:Int),vI (0:Int),vI (0:Int),vU (0:Int)] 44,bM b65 Cu 44,bM b64 [vP b21.1,b21.2.1,vI (p2),vU (p4),Value.func (.func 53) #[] #[]] 97,bM b45 Cu 44,bM b43 [v7] 40,bM b42 [vP b21.1,b21.2.1,vI (p2),vU (p4),Value.func (.func 53) #[] #[]] 97,Ar jL b21.2.1 a20.2.1,bM b21.1 [vS (p0.1),v0,v1,vP b21.2.2.1,b21.2.2.2.1] 140,Ar cZ.raw b21.2.2.2.1 b21.2.2.2.2.1,jK bS b21.2.2.2.2.1 a20.2.2.1,bM b21.2.2.1 [vS (p0.1),v0,v1,v2,v3,vI (a20.2.2.2.1),b21.2.2.2.2.2.1] 178,Ar cZ.raw b21.2.2.2.2.2.1 b21.2.2.2.2.2.2,jK bU b21.2.2.2.2.2.2 a20.2.2.2.2,bM b3 Cu 44,Ar jL b120.2.2.1 a119.2.2.2.2.2.2.2.2.2]) ((cS .u32 r70 p4),(([]:aL)++([(cS .u32 r70 p4)])),(0:Int),r73.1,r73.2.1,r73.2.2.1,r73.2.2.2.1,r73.2.2.2.2,r67,([]:aL)) (x69.1,x69.2,(kK),u81) h SF (aQ.ix [1,3,4,5,6,7,8,9,10,11,13,14,15,16,17,18,19,20,0] rfl rfl) ?_
    intro k121 a119 b120 h
    refine sqR<|qkLss rfl<|dtN<|aI ?_
    refine eB h rfl (fun h=>?_) fun h=>?_
    ·refine cI<|aI<|aN<|sqR<|qkMove rfl<|qkAsg rfl<|dtN<|sqR<|qkMove rfl<|qkMove rfl<|qkMove rfl<|xS (A:=Int) (B:=Unit) (vs:=[vI (a119.2.2.1),vU (a119.1),vP b42,vP b43]) (fun a124=>q_ U p0 p1 p2 p4 a20 a119 (bE (kA U p0 p1 p2 p4 p5 a20) k121) a124=some r) (fun a124 b125=>Value.tuple #[vU (a124),vB (decide (a119.1≠(0:Int)))]) (fun a124 b125=>[Ar jL b120.2.2.2 a119.2.1,bM b76 [vI (a119.2.2.2.1),vI (a119.2.2.2.2.1),vI (a119.2.2.2.2.2.1),vI (a119.2.2.2.2.2.2.1),vU (a119.2.2.2.2.2.2.2.1)] 42,Ar cZ.raw b120.1 b120.2.1,jK bU b120.2.1 a119.2.2.2.2.2.2.2.2.1,bM b66 [b120.2.2.1,b120.2.2.2,kK,vI (0:Int),vI (0:Int),vI (0:Int),vI (0:Int),vU (0:Int)] 44,bM b65 Cu 44,bM b64 [vP b21.1,b21.2.1,vI (p2),vU (p4),Value.func (.func 53) #[] #[]] 97,bM b45 Cu 44,bM b43 [v7] 40,bM b42 [vP b21.1,b21.2.1,vI (p2),vU (p4),Value.func (.func 53) #[] #[]] 97,Ar jL b21.2.1 a20.2.1,bM b21.1 [vS (p0.1),v0,v1,vP b21.2.2.1,b21.2.2.2.1] 140,Ar cZ.raw b21.2.2.2.1 b21.2.2.2.2.1,jK bS b21.2.2.2.2.1 a20.2.2.1,bM b21.2.2.1 [vS (p0.1),v0,v1,v2,v3,vI (a20.2.2.2.1),b21.2.2.2.2.2.1] 178,Ar cZ.raw b21.2.2.2.2.2.1 b21.2.2.2.2.2.2,jK bU b21.2.2.2.2.2.2 a20.2.2.2.2,bM b3 Cu 44,Ar jL b120.2.2.1 a119.2.2.2.2.2.2.2.2.2]) (fun a124 b125=>[Sl aG v0 p0.2.1,Sl aE v1 p0.2.2,PF (Value.agg #[vS p0.1,v0,v1]),Sl bD v2 p1.1,S2 aV v3 z4 p1.2,S2 bD v5 z6 p3,Sl yK v7 p5,Gb 0 (cellsOf CB rK)]) (OH (us:=[vI (a119.2.2.1),vU (a119.1)]) (cs:=[vP b42,vP b43]) (show aO Tryz.prog 82 from Tryz.call82) rfl rfl rfl) Tryz.func82 rfl Tryz.ntmps82 rfl rfl ?_ ?_
     ·refine sqR<|qkAsg rfl<|qkAsg rfl<|dtN<|aI ?_
      refine JR.start [0,1,0,4,0,0,0,96,224,511,0,1024,1023,8191] 13 mixedOrders (by decide +kernel) ?_
      refine JR.open (by exact rfl) ?_
      refine jkFld rfl<|jkLd 9 rfl<|jkFld rfl<|jkLd 9 rfl<|jkMove rfl<|jkLd 8 rfl<|jkMove rfl<|ckE h fun j151 h=>bG rfl .nil (mJ 6 rfl) (aY rfl rfl (aC.fact 0 rfl) rfl rfl j151) aK.z<|bG rfl .nil (mJ 6 rfl) (bT rfl (aC.fact 0 rfl) rfl rfl rfl DL j151) aK.z<|bnE h fun r152 w153 h=>JR.loud rfl rfl rfl (aJ.callQ Xf (zY U b21.2.1 r152 w153) rfl (aD.cons (aU (aC.res 10 rfl) nQ) (oI [7] rfl))) rfl (fun x154=>(rA [] rfl)) fun x154=>jqN rfl (kM rfl)<|jqN rfl (AF rfl rfl)<|jqN rfl (sY rfl)<|bO 13 rfl rfl<|qkAsg rfl<|dtN<|aP ?_
      exact sW (r152) () h (.inl rfl) (CK.r2 rfl (RV.tmp rfl) (RV.tmp rfl)) rfl (aQ.refl _) (aD.refl _ _)
     intro a124 b125 h
     refine qkMove rfl<|qkExt rfl<|qkExt rfl<|qkAsg rfl<|qkAsg rfl<|dtN<|aI<|sqR<|qkMove rfl<|aB (WF rfl) rfl<|dtN ?_
     refine eB h rfl (fun h=>?_) fun h=>?_
     ·refine oY<|dH<|TL rfl<|dH<|dH<|tS<|xG ?_
      exact bY (a119.2.1,a119.2.2.2.1,a119.2.2.2.2.1,a119.2.2.2.2.2.1,a119.2.2.2.2.2.2.1,a119.2.2.2.2.2.2.2.1,a119.2.2.2.2.2.2.2.2.1,a119.2.2.2.2.2.2.2.2.2) (b120.1,b120.2.1,b120.2.2.1,b120.2.2.2) h SF (aQ.ix [0,1,2,3,4,5,7,17,18] rfl rfl) (aD.refl _ _)
     refine cI<|aI<|sqR<|qkFld rfl<|qkLd 6 rfl<|qkFld rfl<|qkLd 6 rfl<|qkMove rfl<|qkMove rfl<|bnE h fun r127 w128 h=>aF (aJ.callQ Uk (zX U b21.2.1 r127 w128) rfl (aD.cons (aU (aC.res 10 rfl) nQ) (oI [7] rfl))) rfl fun x129=>aB (qL rfl) rfl<|dtN ?_
     refine As h rfl (fun _ h=>?_) fun _ h=>?_
     ·refine sqR ?_
      refine aB (FL (r:=Value.agg #[kK,kK,kK,vI (0:Int),vI (0:Int),vI (0:Int),vI (0:Int),vU (0:Int)]) (by intro w;simp[Instr.build,Instr.fill,dA,cN,cF,dB,dC,cO,d_])) rfl ?_
      refine bH 5 (vs:=Cu) rfl rfl rfl rfl rfl rfl<|qkAsg rfl<|dtN<|aP<|aH<|bK<|aH<|aH<|bK<|aH<|jN (iL jL)<|jN (iL jL)<|jN (iL cZ.raw) (jN (xH bU) ?_)
      exact sW (([]:aL),([]:aL),([]:aX),(0:Int),(0:Int),(0:Int),(0:Int),(0:Int),(11:Int)) ((kK),(kK),(kK),([]:fJ)) h (.inl rfl) (CK.r2 rfl (RV.cell 9 rfl rfl rfl rfl) (RV.tmp rfl)) rfl (aQ.ix [11,21,2,3,1,0] rfl rfl) (aD.refl _ _)
     refine cI<|sqR<|qkFld rfl<|qkLd 6 rfl<|qkMove rfl<|qkMove rfl<|bnE h fun r131 w132 h=>aF (aJ.callQ Ul (AW U b21.1 v0 v1 b21.2.2.1 v0 v1 v2 v3 z4 b21.2.2.2.2.2.1 (List.zip b21.2.2.2.2.2.2 a20.2.2.2.2) b21.2.2.2.1 (List.zip b21.2.2.2.2.1 a20.2.2.1) b120.1 (List.zip b120.2.1 a119.2.2.2.2.2.2.2.2.1) r131 w132) rfl (aD.cons (aC.res 11 rfl) (aD.cons (aC.fact 0 rfl) (aD.cons (aC.fact 1 rfl) (aD.cons (aC.res 14 rfl) (aD.cons (aC.fact 0 rfl) (aD.cons (aC.fact 1 rfl) (aD.cons (aC.fact 3 rfl) (aD.cons (aC.fact 4 rfl) (aD.cons (bF (i:=15) (j:=16) rfl rfl cP) (aD.cons (bF (i:=12) (j:=13) rfl rfl bJ) (aD.cons (bF (i:=2) (j:=3) rfl rfl cP) .nil)))))))))))) rfl fun x133=>qkAsg rfl<|dtN<|aI ?_
     refine JR.start [0,1,0,7,0,16,63,127] 6 mixedOrders (by decide +kernel) ?_
     refine JR.open (by exact rfl) ?_
     refine jkFld rfl<|jkLd 8 rfl<|jkMove rfl<|bnE h fun r134 w135 h=>JR.loud rfl rfl rfl (aJ.callQ Ml (nP U b21.1 v0 v1 b21.2.2.1 v0 v1 v2 v3 z4 b21.2.2.2.2.2.1 (List.zip b21.2.2.2.2.2.2 a20.2.2.2.2) b21.2.2.2.1 (List.zip b21.2.2.2.2.1 a20.2.2.1) x133.1 (List.zip x133.2 r131) r134 w135) rfl (aD.cons (aC.res 13 rfl) (aD.cons (aC.fact 0 rfl) (aD.cons (aC.fact 1 rfl) (aD.cons (aC.res 16 rfl) (aD.cons (aC.fact 0 rfl) (aD.cons (aC.fact 1 rfl) (aD.cons (aC.fact 3 rfl) (aD.cons (aC.fact 4 rfl) (aD.cons (bF (i:=17) (j:=18) rfl rfl cP) (aD.cons (bF (i:=14) (j:=15) rfl rfl bJ) (aD.cons (bF (i:=0) (j:=1) rfl rfl cP) .nil)))))))))))) rfl (fun x136=>(rA [] rfl)) fun x136=>jqN rfl (c_ rfl rfl rfl rfl rfl)<|bG rfl (aQ.cons 8 rfl .nil) .nil (dX 0 rfl rfl rfl rfl rfl) (aK.h (aQ.ix [8] rfl rfl) .nil aK.z)<|bO 6 rfl rfl<|qkAnd rfl<|qkAsg rfl<|dtN<|sqR<|qkLdA 3 rfl<|qkMove rfl<|qkMove rfl<|bnE h fun r137 w138 h=>aF (aJ.callQ Um (Ho U  r137 w138) rfl .nil) rfl fun x139=>qkMove rfl<|qkExt rfl<|qkExt rfl<|bH 3 (vs:=[vI (r137.1.1),vI (r137.1.2.1),vI (r137.1.2.2.1),vI (r137.1.2.2.2.1),vU (r137.1.2.2.2.2)]) rfl rfl rfl rfl rfl rfl<|dtN<|sqR<|qkFld rfl<|qkLd 8 rfl<|qkMove rfl<|qkMove rfl<|qkLdA 3 rfl<|bnE h fun r140 w141 h=>aF (pN (vs:=[x133.1,vU (cS .u32 r134 p4),Value.agg #[vI (r137.1.1),vI (r137.1.2.1),vI (r137.1.2.2.1),vI (r137.1.2.2.2.1),vU (r137.1.2.2.2.2)]]) (cs:=[]) QY rfl (Dy U x133.1 (List.zip x133.2 r131) r140 w141) rfl (aD.cons (bF (i:=0) (j:=1) rfl rfl cP) .nil) (fun _ _=>rfl)) rfl fun x142=>dtN<|sqR<|qkFld rfl<|qkLd 6 rfl<|qkMove rfl<|aF (bX (e:=jL) ([a124]) [(0,vU (a124))] rfl rfl rfl rfl (lX (vU (a124)) rfl) rfl rfl rfl) rfl fun u143=>ckE h fun j145 h=>aF (fT 21 nQ rfl rfl rfl (aU (aC.res 0 rfl) nQ) rfl rfl rfl rfl j145 rfl) rfl fun u144=>qkFld rfl<|bQ (Know.one ((aU (aC.res 21 rfl) nQ))) fun ho146=>eK 7 rfl rfl ho146 rfl rfl rfl<|dtN<|aM<|qkFld rfl<|qkLd 7 rfl<|qkMove rfl<|aF (bX (e:=jL) ([(cS .u32 r134 p4)]) [(0,vU (cS .u32 r134 p4))] rfl rfl rfl rfl (lX (vU (cS .u32 r134 p4)) rfl) rfl rfl rfl) rfl fun u147=>ckE h fun j149 h=>aF (fT 4 nQ rfl rfl rfl (aU (aC.res 0 rfl) nQ) rfl rfl rfl rfl j149 rfl) rfl fun u148=>qkFld rfl<|bQ (Know.one ((aU (aC.res 4 rfl) nQ))) fun ho150=>eK 8 rfl rfl ho150 rfl rfl rfl<|dY<|inT<|aM<|qkAdd rfl<|qkMove rfl<|dtN ?_
     exact lS ((cS .u32 r134 p4),(a119.2.1++([(cS .u32 r134 p4)])),(wI .i64 (a119.2.2.1+(1:Int))),r137.1.1,r137.1.2.1,r137.1.2.2.1,r137.1.2.2.2.1,r137.1.2.2.2.2,r131,(a119.2.2.2.2.2.2.2.2.2++[a124])) (x133.1,x133.2,u144,u148) h SF (aQ.ix [4,5,2,3,8,9,10,11,12,13,14,15,16,17,18,19,20,21,22] rfl rfl) (aD.refl _ _)
    refine Go.Sx.vT ?_
    exact bY (a119.2.1,a119.2.2.2.1,a119.2.2.2.2.1,a119.2.2.2.2.2.1,a119.2.2.2.2.2.2.1,a119.2.2.2.2.2.2.2.1,a119.2.2.2.2.2.2.2.2.1,a119.2.2.2.2.2.2.2.2.2) (b120.1,b120.2.1,b120.2.2.1,b120.2.2.2) h SF (aQ.ix [0,1,2,3,4,5,7,17,18] rfl rfl) (aD.refl _ _)
   intro a96 b97 h
   unfold jZ at h
   refine aI ?_
   refine JR.start [0,0,1,5,15,31] 4 mixedOrders (by decide +kernel) ?_
   refine JR.open (by exact rfl) ?_
   refine jkMove rfl<|jkLdA 1 rfl<|jkFld rfl<|bZ (Know.one (aC.sl (bF (i:=2) (j:=3) rfl rfl cP))) fun ho99=>uU rfl rfl rfl (JS 4 rfl rfl ho99 rfl rfl rfl) (fun x98=>(rA [([1],[])] rfl)) fun x98=>bO 4 rfl rfl<|qkFld rfl<|Nm (FH 4 (us:=[vI (a96.2.1),vI (a96.2.2.1),vI (a96.2.2.2.1),vI (a96.2.2.2.2.1),vU (a96.2.2.2.2.2.1)]) rfl rfl rfl rfl rfl rfl rfl rfl rfl) fun x100=>dtN<|sqR<|qkLdA 4 rfl<|bQ (Know.one ((aU (aC.res 8 rfl) nQ))) fun ho101=>bQ (Know.one ((aU (aC.res 0 rfl) nQ))) fun ho102=>bQ (Know.one (aC.sl (bF (i:=2) (j:=3) rfl rfl cP))) fun ho103=>bH 5 (vs:=[b97.2.2.1,b97.2.2.2,b97.1,vI (a96.2.1),vI (a96.2.2.1),vI (a96.2.2.2.1),vI (a96.2.2.2.2.1),vU (a96.2.2.2.2.2.1)]) rfl rfl (dK ho101 (dK ho102 (dK ho103 (dK rfl (dK rfl (dK rfl (dK rfl (dK rfl rfl)))))))) rfl rfl rfl<|qkAsg rfl<|dtN<|aP ?_
   exact sW (a96.2.2.2.2.2.2.2,a96.1,a96.2.2.2.2.2.2.1,a96.2.1,a96.2.2.1,a96.2.2.2.1,a96.2.2.2.2.1,a96.2.2.2.2.2.1,(0:Int)) (b97.2.2.1,b97.2.2.2,b97.1,b97.2.1) h (.inl rfl) (CK.r2 rfl (RV.cell 5 rfl rfl rfl rfl) (RV.tmp rfl)) rfl (aQ.ix [6,7,8,0,2,3] rfl rfl) (aD.refl _ _)
  intro a59 b60 h
  unfold mP at h
  refine qkExt rfl<|qkExt rfl<|bQ (Know.one ((aU (aC.res 2 rfl) nQ))) fun ho61=>bQ (Know.one ((aU (aC.res 3 rfl) nQ))) fun ho62=>bQ (Know.one (aC.sl (bF (i:=4) (j:=5) rfl rfl cP))) fun ho63=>bH 0 (vs:=[b60.1,b60.2.1,b60.2.2.1,vI (a59.2.2.2.1),vI (a59.2.2.2.2.1),vI (a59.2.2.2.2.2.1),vI (a59.2.2.2.2.2.2.1),vU (a59.2.2.2.2.2.2.2.1)]) rfl rfl (dK ho61 (dK ho62 (dK ho63 (dK rfl (dK rfl (dK rfl (dK rfl (dK rfl rfl)))))))) rfl rfl rfl<|qkAsg rfl<|dtN<|aP ?_
  exact sW (a59.2.2.2.1,a59.2.2.2.2.1,a59.2.2.2.2.2.1,a59.2.2.2.2.2.2.1,a59.2.2.2.2.2.2.2.1,a59.2.2.2.2.2.2.2.2,a59.1,a59.2.1,a59.2.2.1) (b60.1,b60.2.1,b60.2.2.1,b60.2.2.2) h (.inl rfl) (CK.r2 rfl (RV.cell 0 rfl rfl rfl rfl) (RV.tmp rfl)) rfl (aQ.ix [1,2,3,4,5] rfl rfl) (aD.refl _ _)
 intro a37 b38 h
 unfold qZ at h
 refine qkExt rfl<|qkExt rfl<|bQ (Know.one ((aU (aC.res 1 rfl) nQ))) fun ho39=>bQ (Know.one ((aU (aC.res 2 rfl) nQ))) fun ho40=>bQ (Know.one (aC.sl (bF (i:=3) (j:=4) rfl rfl cP))) fun ho41=>bH 0 (vs:=[b38.1,b38.2.1,b38.2.2.1,vI (a37.1),vI (a37.2.1),vI (a37.2.2.1),vI (a37.2.2.2.1),vU (a37.2.2.2.2.1)]) rfl rfl (dK ho39 (dK ho40 (dK ho41 (dK rfl (dK rfl (dK rfl (dK rfl (dK rfl rfl)))))))) rfl rfl rfl<|qkAsg rfl<|dtN<|aP ?_
 cases h
 exact iZ (b38.1,b38.2.1,b38.2.2.1,b38.2.2.2) rfl rfl (RV.cell 0 rfl rfl rfl rfl) (RV.tmp rfl) (aQ.ix [1,2,3,4] rfl rfl) aD.nil
end Go.Proofs.YtigggfnchamobaaGreatDoor
end
section
namespace Go.Proofs.YtigggfnchamobaaGreatDoor
open Go Go.Sx
section
abbrev CT:=BX
theorem BQ (l:aL) (hl:l.length<=900):∃b,eX 1000 l=some b:=by
 unfold eX
 have:=wD (step:=fM l) (Q:=fun _:Bool=>True) (fun i:Int=>∃k:Nat,i=(k:Int)∧k<=l.length) (fun i=>l.length - i.toNat) (fun i ag hI hrec=>by
  obtain⟨k,rfl,hk⟩:=hI
  unfold fM jX
  by_cases hlt:k<l.length
  ·rw[if_pos (by omega),cL (by omega)]
   split
   ·exact⟨_,rfl,trivial⟩
   ·rw[dU (by omega)]
    exact hrec _ ⟨k+1,rfl,by omega⟩ (by omega)
  ·rw[if_neg (by omega)]
   exact⟨_,rfl,trivial⟩) 1000 0 ⟨0,rfl,by omega⟩ (by omega)
 obtain⟨b,hb,_⟩:=this
 exact⟨b,hb⟩
theorem IJ (k:CT):∃b,gZ 1000 k=some b:=by
 obtain⟨q,hq⟩:=BQ [k.2.2.2.2] (by simp)
 have key:∀a,∃b,fD 1000 k a=some b:=by
  intro a
  unfold fD iO
  split
  ·exact⟨_,rfl⟩
  ·split
   ·exact⟨_,rfl⟩
   ·split
    ·split
     ·rw[bB hq];exact⟨_,rfl⟩
     ·exact⟨_,rfl⟩
    ·exact⟨_,rfl⟩
 unfold gZ
 repeat' split
 all_goals exact key _
theorem PH {t:Nat} (ht:t<4294967296):∃n,iW 1000 (t:Int)=some n:=by
 have hb:(List.length Fe:Int)=256:=by decide +kernel
 have h255:∀a:Nat,a<4294967296->0<=cS .u32 (a:Int) 255∧cS .u32 (a:Int) 255<256:=fun a ha=>by
  rw[show(255:Int)=((255:Nat):Int)from rfl,BL ha (by omega)]
  have:a &&& 255<=255:=Nat.and_le_right
  omega
 have hs:∀k:Nat,k<32->nU .u32 (t:Int) (k:Int)=((t / 2^k:Nat):Int):=fun k hk=>Fc hk
 have s24:nU .u32 (t:Int) 24=((t / 2^24:Nat):Int):=hs 24 (by omega)
 have s16:nU .u32 (t:Int) 16=((t / 2^16:Nat):Int):=hs 16 (by omega)
 have s8:nU .u32 (t:Int) 8=((t / 2^8:Nat):Int):=hs 8 (by omega)
 unfold iW
 rw[hb,s24,s16,s8,cL (by decide),cL (by omega),cL (by decide),cL (h255 _ (by omega)),cL (by decide),cL (h255 _ (by omega)),cL (h255 _ ht)]
 exact⟨_,rfl⟩
theorem QM (k:CT) {t:Nat} (ht:t<4294967296) (e:Int):∃r,jA 1000 k (t:Int) e=some r:=by
 obtain⟨b,hb⟩:=IJ k
 obtain⟨q,hq⟩:=BQ [(t:Int),e] (by simp)
 obtain⟨n,hn⟩:=PH ht
 have key:∀a,∃r,mZ 1000 k (t:Int) e a=some r:=by
  intro a
  unfold mZ m_
  split
  ·exact⟨_,rfl⟩
  ·split
   ·exact⟨_,rfl⟩
   ·rw[bB hn]
    split<;>exact⟨_,rfl⟩
 unfold jA
 rw[bB (show gZ 1000 _=some b from hb)]
 split
 ·exact⟨_,rfl⟩
 ·split
  ·exact key _
  ·rw[bB hq];exact key _

def FU (g:GR) (v i:Nat):Int:=yC (row g (gR (row g v) i).1.toNat) (v:Int)
def xY (g:GR):aX:=(List.range g.2.length).map fun v=>(List.range (row g v).length).map (FU g v)
def bI (p:BC) (g:GR):yL:=(p,g,gJ g g.2.length,xY g)
theorem SV {g:GR} (hV:VG g) (p:BC) (kind:Int) (c:aX) (lv:Int) (ws:aL):
  bE (eG 1000 p g kind c lv ws) 1000 ((0:Int),(0:Int),(List.replicate (Int.toNat (List.length g.2:Int)) ([]:aL)))=j_ 1000 p g kind c lv ws (gJ g g.2.length,xY g):=by
 have h24:=hV.n24
 have hlen:=hV.len
 let f:Nat->aL:=fun v=>(List.range (row g v).length).map (FU g v)
 let Q:Nat->aX:=fun k=>(List.range k).map f++List.replicate (g.2.length - k) []
 have hQ:∀k,k<=g.2.length->(Q k).length=g.2.length:=fun k hk=>by simp[Q];omega
 rw[show List.replicate (Int.toNat (List.length g.2:Int)) ([]:aL)=Q 0 by simp[Q]]
 refine dR (step:=eG 1000 p g kind c lv ws) g.2.length (fun k=>((k:Int),gJ g k,Q k)) (fun k ag hk=> ?_) (fun ag=> ?_) 1000 (by omega)
 ·have hdeg:=(hV.node k hk).deg
  have hq:k<(Q k).length:=by rw[hQ k (by omega)];exact hk
  unfold eG
  dsimp only
  rw[if_pos (by omega),cL (by omega),cL (by omega)]
  let Rw:Nat->aL:=fun j=>(List.range j).map (FU g k)
  have e0:Q k=(Q k).set k (Rw 0):=by
   have:at' (Q k) (k:Int)=Rw 0:=by
    rw[kD hq];simp[Q,Rw]
   rw[<-this]
   exact(Cn (Q k) (k:Int) (by simpa using hq) (by omega)).symm
  rw[show(Q k)=(Q k).set k (Rw 0)from e0]
  have hgen:∀A:aX,A.length=g.2.length->bE (gX 1000 g ((k:Int),gJ g k,(Q k).set k (Rw 0)) ag) 1000 ((0:Int),A.set k (Rw 0))=ag (((k+1:Nat):Int),gJ g (k+1),A.set k (f k)):=by
   intro A hA
   refine dR (step:=gX 1000 g ((k:Int),gJ g k,(Q k).set k (Rw 0)) ag) (K:=ag (((k+1:Nat):Int),gJ g (k+1),A.set k (f k))) (row g k).length (fun j=>((j:Int),A.set k (Rw j))) (fun j ag2 hj=> ?_) (fun ag2=> ?_) 1000 (by omega)
   ·obtain⟨u,hu,hue⟩:=hV.to hk hj
    have hdu:=(hV.node u hu).deg
    have a1:at' (A.set k (Rw j)) (k:Int)=Rw j:=by rw[wK _ _ _ _ (by omega),if_pos rfl]
    have hRl:(Rw j).length=j:=by simp[Rw]
    unfold gX
    dsimp only
    rw[if_pos (show(j:Int)<((row g k).length:Int) by omega),cL (show 0<=(j:Int)∧(j:Int)<((row g k).length:Int) by omega),cL (by simp only[List.length_set];omega),show at' (at' g.2 (k:Int)) (j:Int)=gR (row g k) j from rfl,hue,bB (show kX 1000 _ (u:Int) (k:Int)=_ from Ib g u (k:Int) hu (by omega)),a1,cL (by rw[hRl];simp;omega),cL (by simp only[List.length_set];omega),dU (by omega),Int.toNat_natCast,List.set_set]
    have:Rw j++[yC (row g u) (k:Int)]=Rw (j+1):=by
     simp only[Rw];rw[List.range_succ,List.map_append,List.map_singleton,FU,hue,Int.toNat_natCast]
    rw[this]
   ·unfold gX mS
    dsimp only
    rw[if_neg (show¬((row g k).length:Int)<((row g k).length:Int)from Int.lt_irrefl _),dU (by omega)]
    rfl
  have:=hgen (Q k) (hQ k (by omega))
  rw[rE f [] g.2.length k hk]at this
  exact this
 ·unfold eG
  dsimp only
  rw[if_neg (by omega)]
  simp[Q,xY,f]
end
section
def vE (S:yL) (R:List RL) (lv:Nat) (c:aX):Nat:=UN S R c &&& lv
theorem NI (S:yL) (R:List RL) (c:aX) (v:Nat):(UN S R c).testBit v=(decide (v<S.2.1.2.length)&&decide (0<=oO S R c v)):=HZ _ v _
theorem CY (S:yL) (R:List RL) (lv:Nat) (c:aX) (v:Nat):(vE S R lv c).testBit v=true↔v<S.2.1.2.length∧0<=oO S R c v∧lv.testBit v=true:=by
 unfold vE
 rw[Nat.testBit_and,NI,Bool.and_eq_true,Bool.and_eq_true,decide_eq_true_eq,decide_eq_true_eq,and_assoc]
theorem Rq {S:yL} (hV:VG S.2.1) (R:List RL) (c:aX):UN S R c<4294967296:=NY _ (by have:=hV.n24;omega)
theorem Mu (S:yL) (R:List RL) (lv:Nat) (c:aX):OI S.2.1 (vE S R lv c):=fun i hi=>((CY S R lv c i).1 hi).1
def KF (ch:eC):aL:=ch.map fun t=>((t:Nat):Int)
section
variable {p:BC} {g:GR} {R:List RL}
theorem Pq (hV:VG g) (hp:zE g p.2.1) (hz:p.2.2.map wB=DX R) (hR:uH p.2.1.length R=true) {kind:Int} (hk1:1<=kind) (hk4:kind<=4) {c0:List (List Int)} (hc0:JG g c0 p.2.1) {lv:Nat} (hlv:lv<4294967296) {ws:List Int} (hws:ws.length<=900) (hw:∀k:Nat,k<ws.length->∃m:Nat,at' ws (k:Int)=(m:Int)∧m<4294967296)
  (P:Nat->List (List Int)->List Nat->CT->Prop) (h0:P 0 c0 [] (0,0,0,0,cS .u32 ((vE (bI p g) R lv c0:Nat):Int) 16777215))
  (hstep:∀k c ch cnt t cnt' err,k<ws.length->sX g p.2.1.length c->P k c ch cnt->vE (bI p g) R lv c≠0->t≠0->(∀i,t.testBit i=true->(vE (bI p g) R lv c).testBit i=true)->(kind=2->∀v u,t.testBit v=true->t.testBit u=true->¬Hi g v u)->(kind=4->t=vE (bI p g) R lv c)->
   jA 1000 cnt (t:Int) ((vE (bI p g) R lv (h_ (bI p g) p.2.1 R c t):Nat):Int)=some (cnt',err)->P (k+1) (h_ (bI p g) p.2.1 R c t) (ch++[t]) cnt'):
  ∃k c ch cnt ens,kZ 1000 p g kind c0 (lv:Int) ws=some ((KF ch,ens,c,cnt),0)∧P k c ch cnt∧sX g p.2.1.length c∧k<=ws.length∧ch.length=k∧ens.length=k+1∧at' ens (k:Int)=((vE (bI p g) R lv c:Nat):Int)∧(k=ws.length∨vE (bI p g) R lv c=0):=by
 have h24:=hV.n24
 have hvl:=hp.len
 let S:=bI p g
 have hVS:VG S.2.1:=hV
 obtain⟨net,hnet,hN⟩:=XT hV
 have hcheck:vC 1000 p g kind c0 (ws.length:Int)=some 0:=by
  unfold vC
  rw[bB (show kY 1000 _ _ c0=_ from Kw hV hp hc0),if_neg (by decide)]
  have:tG 1000 kind=some true:=by
   unfold tG oE
   rw[if_pos hk1,decide_eq_true hk4]
  rw[bB this,if_neg (by decide),if_neg (by omega)]
 unfold kZ
 rw[bB (show vC 1000 _ _ kind c0 _=_ from hcheck),if_neg (by decide),cL (by omega),SV hV p kind c0 (lv:Int) ws]
 unfold j_ mR
 rw[bB (show gT 1000 _ _=_ from Ha hV hp)]
 unfold mQ
 rw[bB (show oK 1000 _=_ from hnet),bB (show vA 1000 _=_ from WG hV)]
 have hen:∀c,sX g p.2.1.length c->cE 1000 (p,(p,g,gJ g g.2.length,xY g),yD g p.2.1) c=some ((UN S R c:Nat):Int):=fun c hc=>Ge hV hc hz hR (by simp[yD])
 have hand:∀c,cS .u32 ((UN S R c:Nat):Int) (lv:Int)=((vE S R lv c:Nat):Int):=fun c=>BL (Rq hVS R c) hlv
 unfold qY
 dsimp only
 rw[bB (NG c0 (by rw[hc0.len];omega) (fun v hv=>by rw[hc0.row v (by rw[<-hc0.len];exact hv)];omega)),bB (show cE 1000 _ c0=_ from hen c0 hc0.shape),hand,bB (show rX 1000 _=some (0,0,0,0,cS .u32 ((vE S R lv c0:Nat):Int) 16777215)from rfl),bB (show qI 1000 _ _ _=some ()from rfl),cL (by simp),List.nil_append]
 let A20:Int×List Int×(List (List (Int×Int)))×Int×List (List Int):=(((2^g.2.length - 1:Nat):Int),net,yD g p.2.1,gJ g g.2.length,xY g)
 have fin:∀k c ch cnt ens,P k c ch cnt->sX g p.2.1.length c->k<=ws.length->ch.length=k->ens.length=k+1->at' ens (k:Int)=((vE S R lv c:Nat):Int)->(k=ws.length∨vE S R lv c=0)->
   OK (fun r:(List Int×List Int×List (List Int)×CT)×Int=>∃k c ch cnt ens,r=((KF ch,ens,c,cnt),0)∧P k c ch cnt∧sX g p.2.1.length c∧k<=ws.length∧ch.length=k∧ens.length=k+1∧at' ens (k:Int)=((vE S R lv c:Nat):Int)∧(k=ws.length∨vE S R lv c=0)) (jZ (ens,cnt.1,cnt.2.1,cnt.2.2.1,cnt.2.2.2.1,cnt.2.2.2.2,c,KF ch)):=
  fun k c ch cnt ens a1 a2 a3 a4 a5 a6 a7=>⟨_,rfl,k,c,ch,cnt,ens,rfl,a1,a2,a3,a4,a5,a6,a7⟩
 have key:=wD (step:=kA 1000 p g kind (lv:Int) ws A20) (Q:=fun r:(List Int×List Int×List (List Int)×CT)×Int=>∃k c ch cnt ens,r=((KF ch,ens,c,cnt),0)∧P k c ch cnt∧sX g p.2.1.length c∧k<=ws.length∧ch.length=k∧ens.length=k+1∧at' ens (k:Int)=((vE S R lv c:Nat):Int)∧(k=ws.length∨vE S R lv c=0))
  (fun x=>∃(k:Nat) (c:List (List Int)) (ch:List Nat) (cnt:CT) (ens:List Int),x=(((vE S R lv c:Nat):Int),ens,(k:Int),cnt.1,cnt.2.1,cnt.2.2.1,cnt.2.2.2.1,cnt.2.2.2.2,c,KF ch)∧P k c ch cnt∧sX g p.2.1.length c∧k<=ws.length∧ch.length=k∧ens.length=k+1∧at' ens (k:Int)=((vE S R lv c:Nat):Int)) (fun x=>ws.length - x.2.2.1.toNat) (fun x ag hI hrec=>by
  obtain⟨k,c,ch,cnt,ens,rfl,b1,b2,b3,b4,b5,b6⟩:=hI
  unfold kA
  dsimp only
  by_cases hlt:k<ws.length
  rotate_left
  ·rw[if_neg (by omega)]
   exact fin k c ch cnt ens b1 b2 b3 b4 b5 b6 (.inl (by omega))
  obtain⟨w,hwe,hw32⟩:=hw k hlt
  have hin:OI g (vE S R lv c):=Mu S R lv c
  obtain⟨t,ht,hsub,hne⟩:=MS hV hN hk1 hk4 hin hw32
  rw[if_pos (by omega),cL (by omega),hwe,bB (show fF 1000 net kind _ _=_ from ht)]
  unfold q_
  dsimp only
  by_cases he0:vE S R lv c=0
  ·rw[if_pos (by omega)]
   exact fin k c ch cnt ens b1 b2 b3 b4 b5 b6 (.inr he0)
  obtain⟨ht0,hperm,hk2,hk4'⟩:=hne he0
  have ht32:t<4294967296:=by have:=OI.lt hV (fun i hi=>hin i (hsub i hi));omega
  rw[if_neg (by omega),bB (show fE 1000 net kind _ _=_ from hperm),if_neg (by decide)]
  have hst:gE 1000 (p,(p,g,gJ g g.2.length,xY g),yD g p.2.1) c (t:Int)=some (h_ S p.2.1 R c t):=VI (gr:=gJ g g.2.length) (bk:=xY g) hV hp b2 hz hR ht32 (fun v hv=>((CY S R lv c v).1 (hsub v hv)).2.1)
  have hsh:sX g p.2.1.length (h_ S p.2.1 R c t):=b2.step
  obtain⟨⟨cnt',err⟩,hadd⟩:=QM cnt ht32 ((vE S R lv (h_ S p.2.1 R c t):Nat):Int)
  rw[bB (show gE 1000 _ c (t:Int)=_ from hst),bB (show cE 1000 _ _=_ from hen _ hsh),hand,bB (show jA 1000 _ (t:Int) _=_ from hadd),bB (show qI 1000 _ _ _=some ()from rfl),cL (by simp[KF];omega),cL (by simp;omega),dU (by omega)]
  refine hrec _ ⟨k+1,h_ S p.2.1 R c t,ch++[t],cnt',ens++[((vE S R lv (h_ S p.2.1 R c t):Nat):Int)],by simp[KF],hstep k c ch cnt t cnt' err hlt b2 b1 he0 ht0 hsub hk2 hk4' hadd,hsh,by omega,by simp[b4],by simp[b5],?_⟩ (by dsimp only;omega)
  exact IL (pre:=ens) (rest:=[]) (by simp) b5) 1000 (((vE S R lv c0:Nat):Int),[((vE S R lv c0:Nat):Int)],(0:Int),0,0,0,0,cS .u32 ((vE S R lv c0:Nat):Int) 16777215,c0,[])
  ⟨0,c0,[],(0,0,0,0,cS .u32 ((vE S R lv c0:Nat):Int) 16777215),[((vE S R lv c0:Nat):Int)],rfl,h0,hc0.shape,by omega,rfl,rfl,rfl⟩ (by dsimp only;omega)
 obtain⟨r,hr,k,c,ch,cnt,ens,rfl,hrest⟩:=key
 exact⟨k,c,ch,cnt,ens,hr,hrest⟩
end
end
end Go.Proofs.YtigggfnchamobaaGreatDoor
end
section
namespace Go.Proofs.YtigggfnchamobaaGreatDoor
open Go.Sx
def sG  (a3:aL):Option aL:=
 some (a3)
def oS (a9:aL×Int) (ag8:(aL×Int)->Option aL) (a15:aL):Option aL:=
 ag8 (a15,(wI .i64 (a9.2+(1:Int))))
def lR (p0:aL) (p1:Int) (a9:aL×Int) (ag8:(aL×Int)->Option aL):Option aL:=
 if a9.2<p1 then(if(List.length p0:Int)=(0:Int)then(ck ((List.length a9.1:Int)+(List.length ([(4294967295:Int)]):Int)<=1099511627) (oS a9 ag8 (a9.1++([(4294967295:Int)]))))else(ck ((List.length p0:Int)≠0) (ck (0<=(Int.tmod a9.2 (List.length p0:Int))∧(Int.tmod a9.2 (List.length p0:Int))<(List.length p0:Int)) (ck ((List.length p0:Int)≠0) (ck ((24:Int)≠0) (ck (0<=(wI .u64 (Int.tmod (wI .i64 (Int.tdiv a9.2 (List.length p0:Int))) (24:Int)))) (ck (0<=(wI .u64 ((24:Int) - (wI .u64 (Int.tmod (wI .i64 (Int.tdiv a9.2 (List.length p0:Int))) (24:Int)))))) (ck ((List.length a9.1:Int)+(List.length ([(cS .u32 (IM .u32 (zH .u32 (cS .u32 (at' p0 (Int.tmod a9.2 (List.length p0:Int))) (16777215:Int)) (wI .u64 (Int.tmod (wI .i64 (Int.tdiv a9.2 (List.length p0:Int))) (24:Int)))) (nU .u32 (cS .u32 (at' p0 (Int.tmod a9.2 (List.length p0:Int))) (16777215:Int)) (wI .u64 ((24:Int) - (wI .u64 (Int.tmod (wI .i64 (Int.tdiv a9.2 (List.length p0:Int))) (24:Int))))))) (16777215:Int))]):Int)<=1099511627) (oS a9 ag8 (a9.1++([(cS .u32 (IM .u32 (zH .u32 (cS .u32 (at' p0 (Int.tmod a9.2 (List.length p0:Int))) (16777215:Int)) (wI .u64 (Int.tmod (wI .i64 (Int.tdiv a9.2 (List.length p0:Int))) (24:Int)))) (nU .u32 (cS .u32 (at' p0 (Int.tmod a9.2 (List.length p0:Int))) (16777215:Int)) (wI .u64 ((24:Int) - (wI .u64 (Int.tmod (wI .i64 (Int.tdiv a9.2 (List.length p0:Int))) (24:Int))))))) (16777215:Int))])))))))))))else(sG  (a9.1))
def pX (U:Nat) (p0:aL) (p1:Int):Option aL:=
 bE (lR p0 p1) U (([]:aL),(0:Int))
theorem Mk:aO Tryz.prog 14:=Tryz.call14
theorem xB (U:Nat) {p0:aL} {p1:Int} (v0:Value) (r:aL) (h:pX U p0 p1=some r):
  aT Tryz.prog 14 #[v0,vI (p1)] [Sl yK v0 p0] (fun x:Value=>x) (fun x l=>Ar jL x r::l) (fun _ l=>l):=by
 refine aT.of Tryz.func14 rfl Tryz.ntmps14 rfl fun c=>?_
 unfold pX at h
 refine sqR<|qkAsg rfl<|dtN<|sqR<|qkAsg rfl<|dtN<|aI<|midL (B:=Value) (fun a3=>sG  a3=some r) (fun a3 b4=>[(5,b4)]) (fun a3 b4=>[Ar jL b4 a3]) ?_ ?_
 ·refine sqR<|qkAsg rfl<|dtN<|aN<|jN (iL jL)<|loopL (B:=Value) (lR p0 p1) (fun a9 b10=>[(0,v0),(1,vI (p1)),(5,b10),(6,vI (a9.2))]) (fun a9 b10=>[Ar jL b10 a9.1]) (([]:aL),(0:Int)) (kK) h SF (aQ.refl _) ?_
  intro k11 a9 b10 h
  refine aI<|sqR<|qkMove rfl<|qkMove rfl<|qkLss rfl<|dtN ?_
  refine eB h rfl (fun h=>?_) fun h=>?_
  ·refine cI<|aI<|midL (B:=Value) (fun a15=>oS a9 (bE (lR p0 p1) k11) a15=some r) (fun a15 b16=>[(0,v0),(1,vI (p1)),(5,b16),(6,vI (a9.2))]) (fun a15 b16=>[Ar jL b16 a15]) ?_ ?_
   ·refine aN<|aI<|sqR<|qkMove rfl<|qkLen (aC.fact 0 rfl) rfl<|qkEql rfl<|dtN ?_
    refine eB h rfl (fun h=>?_) fun h=>?_
    ·refine sqR<|qkMove rfl<|aF (bX (e:=jL) ([(4294967295:Int)]) [(0,vU (4294967295:Int))] rfl rfl rfl rfl (lX (vU (4294967295:Int)) rfl) rfl rfl rfl) rfl fun u18=>ckE h fun j20 h=>aF (fT 1 nQ rfl rfl rfl (aU (aC.res 0 rfl) nQ) rfl rfl rfl rfl j20 rfl) rfl fun u19=>qkAsg rfl<|dtN<|oY<|dH<|tS<|xG ?_
     exact bY (a9.1++([(4294967295:Int)])) (u19) h SF (aQ.ix [1] rfl rfl) (aD.refl _ _)
    refine cI<|aI ?_
    refine JR.start [0,0,0,4,14,31,63,0,0,256,896,1920,3968,127,16383] 14 mixedOrders (by decide +kernel) ?_
    refine JR.open (by exact rfl) ?_
    refine jkMove rfl<|jkMove rfl<|jkMove rfl<|bG rfl .nil (mJ 0 rfl) (fR rfl (aC.fact 0 rfl) rfl) aK.z<|ckE h fun j21 h=>jqN rfl (Ko rfl rfl j21)<|ckE h fun j22 h=>bG rfl .nil (mJ 0 rfl) (aY rfl rfl (aC.fact 0 rfl) rfl rfl j22) aK.z<|bG rfl .nil (mJ 0 rfl) (bT rfl (aC.fact 0 rfl) rfl rfl rfl DL j22) aK.z<|jkMove rfl<|jkMove rfl<|bG rfl .nil (mJ 0 rfl) (fR rfl (aC.fact 0 rfl) rfl) aK.z<|ckE h fun j23 h=>jqN rfl (QL rfl rfl j23)<|ckE h fun j24 h=>jqN rfl (Ko rfl rfl j24)<|jqN rfl (Md rfl rfl rfl)<|jqN rfl (sY rfl)<|bO 14 rfl rfl<|qkAsg rfl<|dtN<|sqR<|qkMove rfl<|qkAnd rfl<|qkAsg rfl<|dtN<|aM<|qkMove rfl<|qkMove rfl<|qkMove rfl<|ckE h fun j25 h=>aB (Kp rfl rfl j25) rfl<|qkMove rfl<|qkMove rfl<|aB (pR rfl rfl) rfl<|ckE h fun j26 h=>aB (CQ rfl rfl j26) rfl<|aB (TU rfl rfl) rfl<|qkAnd rfl<|aF (bX (e:=jL) ([(cS .u32 (IM .u32 (zH .u32 (cS .u32 (at' p0 (Int.tmod a9.2 (List.length p0:Int))) (16777215:Int)) (wI .u64 (Int.tmod (wI .i64 (Int.tdiv a9.2 (List.length p0:Int))) (24:Int)))) (nU .u32 (cS .u32 (at' p0 (Int.tmod a9.2 (List.length p0:Int))) (16777215:Int)) (wI .u64 ((24:Int) - (wI .u64 (Int.tmod (wI .i64 (Int.tdiv a9.2 (List.length p0:Int))) (24:Int))))))) (16777215:Int))]) [(0,vU (cS .u32 (IM .u32 (zH .u32 (cS .u32 (at' p0 (Int.tmod a9.2 (List.length p0:Int))) (16777215:Int)) (wI .u64 (Int.tmod (wI .i64 (Int.tdiv a9.2 (List.length p0:Int))) (24:Int)))) (nU .u32 (cS .u32 (at' p0 (Int.tmod a9.2 (List.length p0:Int))) (16777215:Int)) (wI .u64 ((24:Int) - (wI .u64 (Int.tmod (wI .i64 (Int.tdiv a9.2 (List.length p0:Int))) (24:Int))))))) (16777215:Int)))] rfl rfl rfl rfl (lX (vU (cS .u32 (IM .u32 (zH .u32 (cS .u32 (at' p0 (Int.tmod a9.2 (List.length p0:Int))) (16777215:Int)) (wI .u64 (Int.tmod (wI .i64 (Int.tdiv a9.2 (List.length p0:Int))) (24:Int)))) (nU .u32 (cS .u32 (at' p0 (Int.tmod a9.2 (List.length p0:Int))) (16777215:Int)) (wI .u64 ((24:Int) - (wI .u64 (Int.tmod (wI .i64 (Int.tdiv a9.2 (List.length p0:Int))) (24:Int))))))) (16777215:Int))) rfl) rfl rfl rfl) rfl fun u27=>ckE h fun j29 h=>aF (fT 1 nQ rfl rfl rfl (aU (aC.res 0 rfl) nQ) rfl rfl rfl rfl j29 rfl) rfl fun u28=>qkAsg rfl<|dY<|inT ?_
    exact bY (a9.1++([(cS .u32 (IM .u32 (zH .u32 (cS .u32 (at' p0 (Int.tmod a9.2 (List.length p0:Int))) (16777215:Int)) (wI .u64 (Int.tmod (wI .i64 (Int.tdiv a9.2 (List.length p0:Int))) (24:Int)))) (nU .u32 (cS .u32 (at' p0 (Int.tmod a9.2 (List.length p0:Int))) (16777215:Int)) (wI .u64 ((24:Int) - (wI .u64 (Int.tmod (wI .i64 (Int.tdiv a9.2 (List.length p0:Int))) (24:Int))))))) (16777215:Int))])) (u28) h SF (aQ.ix [1] rfl rfl) (aD.refl _ _)
   intro a15 b16 h
   unfold oS at h
   refine aM<|qkMove rfl<|qkAdd rfl<|qkAsg rfl<|dtN ?_
   exact yF (a15,(wI .i64 (a9.2+(1:Int)))) (b16) h SF rfl
  refine Go.Sx.vT ?_
  exact jV (a9.1) (b10) h SF rfl
 intro a3 b4 h
 unfold sG at h
 refine sqR<|qkMove rfl<|qkAsg rfl<|dtN<|aP ?_
 cases h
 exact fS (b4) rfl rfl (RV.tmp rfl) (aQ.refl _) aD.nil
end Go.Proofs.YtigggfnchamobaaGreatDoor
end
section
namespace Go.Proofs.YtigggfnchamobaaGreatDoor
open Go Go.Sx
section
theorem LC (x:Int):0<=wI .u64 x:=by
 rw[Bc]
 have:IntKind.u64.wrap x=x%18446744073709551616:=rfl
 rw[this];omega
theorem P_ (l:aL) {n:Nat} (hn:n<=900):∃ws,pX 1000 l (n:Int)=some ws∧ws.length=n∧∀k:Nat,k<ws.length->∃m:Nat,at' ws (k:Int)=(m:Int)∧m<4294967296:=by
 unfold pX
 obtain⟨⟨ws,i⟩,⟨hi,hl,hb⟩,he⟩:=u_ (step:=lR l (n:Int)) (K:=fun z=>some z.1) n
  (fun k z=>z.2=(k:Int)∧z.1.length=k∧∀j:Nat,j<k->∃m:Nat,at' z.1 (j:Int)=(m:Int)∧m<4294967296) (fun k z ag hk hI=>by
  obtain⟨ws,i⟩:=z
  obtain⟨hi,hl,hb⟩:=hI
  dsimp only at hi hl hb
  subst hi
  have snoc:∀m:Nat,m<4294967296->∀j:Nat,j<k+1->∃m':Nat,at' (ws++[(m:Int)]) (j:Int)=(m':Int)∧m'<4294967296:=fun m hm j hj=>by
   rw[Jx ws _ (by omega)]
   by_cases e:j<ws.length
   ·rw[if_pos e];exact hb j (by omega)
   ·rw[if_neg e];exact⟨m,rfl,hm⟩
  have hin:∀m:Nat,(List.length ws:Int)+(List.length [(m:Int)]:Int)<=1099511627:=fun m=>by simp;omega
  unfold lR oS
  dsimp only
  rw[if_pos (by omega),dU (by omega)]
  by_cases h0:l.length=0
  ·rw[if_pos (by omega),cL (show(List.length ws:Int)+(List.length [(4294967295:Int)]:Int)<=1099511627 from hin 4294967295)]
   exact⟨_,⟨rfl,by simp[hl],snoc 4294967295 (by omega)⟩,rfl⟩
  ·have e1:Int.tmod (k:Int) (l.length:Int)=((k%l.length:Nat):Int):=rfl
   have hlt:k%l.length<l.length:=Nat.mod_lt _ (by omega)
   rw[if_neg (by omega),cL (by omega),cL (by rw[e1];omega),cL (by omega),cL (by decide),cL (LC _),cL (LC _)]
   have hX:∀X:Int,∃m:Nat,cS .u32 X (16777215:Int)=(m:Int)∧m<4294967296:=fun X=>⟨_,Fb _ _,Nat.lt_of_le_of_lt Nat.and_le_left (FI _)⟩
   obtain⟨m,hm,hm32⟩:=hX (IM .u32 (zH .u32 (cS .u32 (at' l (Int.tmod (k:Int) (l.length:Int))) (16777215:Int)) (wI .u64 (Int.tmod (wI .i64 (Int.tdiv (k:Int) (l.length:Int))) (24:Int)))) (nU .u32 (cS .u32 (at' l (Int.tmod (k:Int) (l.length:Int))) (16777215:Int)) (wI .u64 ((24:Int) - (wI .u64 (Int.tmod (wI .i64 (Int.tdiv (k:Int) (l.length:Int))) (24:Int)))))))
   rw[hm,cL (hin m)]
   exact⟨_,⟨rfl,by simp[hl],snoc m hm32⟩,rfl⟩) (fun z ag hI=>by
  obtain⟨ws,i⟩:=z
  obtain⟨hi,hl,hb⟩:=hI
  dsimp only at hi
  subst hi
  unfold lR sG
  dsimp only
  rw[if_neg (by omega)]) 1000 (([]:aL),(0:Int)) ⟨rfl,rfl,fun j hj=>by omega⟩ (by omega)
 exact⟨ws,he,hl,fun k hk=>hb k (by dsimp only at hl;omega)⟩

theorem Ri {d:Nat} (hd:d<4294967296):∃lv:Nat,Ue .u32 4294967295 (d:Int)=(lv:Int)∧lv<4294967296∧∀i,i<32->lv.testBit i = !d.testBit i:=by
 refine⟨(BitVec.ofInt 32 4294967295 ^^^ BitVec.ofInt 32 (d:Int)).toNat,Hg _ (BitVec.isLt _),BitVec.isLt _,fun i hi=> ?_⟩
 have h1:(BitVec.ofInt 32 4294967295 ^^^ BitVec.ofInt 32 (d:Int)).toNat=Hk 4294967295 ^^^ Hk (d:Int):=BitVec.toNat_xor ..
 rw[h1,o_ hd,show Hk 4294967295=2^32 - 1 from o_ (a:=4294967295) (by omega),Nat.testBit_xor,Nat.testBit_two_pow_sub_one,decide_eq_true hi]
 simp
def Ai (c:aX) (v:Nat):Int:=at' (at' c (v:Int)) 0
def Ee (g:GR) (c:aX) (v i:Nat):Int:=at' (at' c (gR (row g v) i).1) 0
theorem Dh {g:GR} {c:aX} {v i u:Nat} (h:(gR (row g v) i).1=(u:Int)):Ee g c v i=Ai c u:=by unfold Ee Ai;rw[h]
end
section
theorem Mn:∀i,i<256->0<=at' Fe ((i:Nat):Int)∧at' Fe ((i:Nat):Int)<=8∧(i≠0->1<=at' Fe ((i:Nat):Int)):=by
 have h:((List.range 256).all fun i=>decide (0<=at' Fe ((i:Nat):Int)∧at' Fe ((i:Nat):Int)<=8∧(i≠0->1<=at' Fe ((i:Nat):Int))))=true:=by decide +kernel
 intro i hi
 exact of_decide_eq_true (List.all_eq_true.1 h i (List.mem_range.2 hi))
theorem Vu {t:Nat} (ht:t<16777216) (h0:t≠0):∃n:Nat,iW 1000 (t:Int)=some (n:Int)∧1<=n∧n<=24:=by
 have hb:(List.length Fe:Int)=256:=by decide +kernel
 have h255:∀a:Nat,a<4294967296->cS .u32 (a:Int) 255=((a%256:Nat):Int):=fun a ha=>by
  rw[show(255:Int)=((255:Nat):Int)from rfl,BL ha (by omega),show(255:Nat)=2^8 - 1 from rfl,Nat.and_two_pow_sub_one_eq_mod]
 have hs:∀k:Nat,k<32->nU .u32 (t:Int) (k:Int)=((t / 2^k:Nat):Int):=fun k hk=>Fc hk
 have s24:nU .u32 (t:Int) 24=((t / 2^24:Nat):Int):=hs 24 (by omega)
 have s16:nU .u32 (t:Int) 16=((t / 2^16:Nat):Int):=hs 16 (by omega)
 have s8:nU .u32 (t:Int) 8=((t / 2^8:Nat):Int):=hs 8 (by omega)
 have z24:t / 2^24=0:=Nat.div_eq_of_lt (by omega)
 unfold iW
 rw[hb,s24,s16,s8,h255 _ (by omega),h255 _ (by omega),h255 _ (by omega),z24,cL (by decide),cL (by omega),cL (by decide),cL (by omega),cL (by decide),cL (by omega),cL (by omega)]
 obtain⟨a1,a2,a3⟩:=Mn (t / 2^16%256) (by omega)
 obtain⟨b1,b2,b3⟩:=Mn (t / 2^8%256) (by omega)
 obtain⟨c1,c2,c3⟩:=Mn (t%256) (by omega)
 have z0:at' Fe ((0:Nat):Int)=0:=rfl
 have hpos:1<=at' Fe ((t / 2^16%256:Nat):Int)+at' Fe ((t / 2^8%256:Nat):Int)+at' Fe ((t%256:Nat):Int):=by
  by_cases e1:t / 2^16%256=0
  ·by_cases e2:t / 2^8%256=0
   ·have:=c3 (by omega);omega
   ·have:=b3 e2;omega
  ·have:=a3 e1;omega
 have w8:∀x:Int,0<=x->x<=100->wI .u8 x=x:=fun x h1 h2=>by
  rw[Bc]
  have:IntKind.u8.wrap x=x%256:=rfl
  rw[this];omega
 generalize at' Fe ((t / 2^16%256:Nat):Int)=A at *
 generalize at' Fe ((t / 2^8%256:Nat):Int)=B at *
 generalize at' Fe ((t%256:Nat):Int)=C at *
 rw[z0,w8 (0+A) (by omega) (by omega),w8 (0+A+B) (by omega) (by omega),w8 (0+A+B+C) (by omega) (by omega),wr (by omega) (by omega)]
 exact⟨(0+A+B+C).toNat,by congr 1;omega,by omega,by omega⟩
theorem EF (l:aL) (hl:l.length<=900) (h:∀x∈l,∃a:Nat,x=(a:Int)∧a<16777216):eX 1000 l=some true:=by
 unfold eX
 refine dR (step:=fM l) (K:=some true) l.length (fun k=>(k:Int)) (fun k ag hk=> ?_) (fun ag=> ?_) 1000 (by omega)
 ·obtain⟨a,ha,h24⟩:=h (at' l (k:Int)) (by rw[kD hk];exact List.getElem_mem hk)
  unfold fM
  rw[if_pos (by omega),cL (by omega),ha,dU (by omega)]
  have:qB .u32 (a:Int) (16777215:Int)=0:=(QS _ _).2 fun i hi=>by
   rw[o_ (by omega)]at hi
   have e:Hk 16777215=2^24 - 1:=o_ (a:=16777215) (by omega)
   rw[e,Nat.testBit_two_pow_sub_one,decide_eq_true_eq]
   by_cases h:i<24
   ·exact h
   ·have:=Nat.testBit_lt_two_pow (x:=a) (i:=i) (Nat.lt_of_lt_of_le h24 (Nat.pow_le_pow_right (n:=2) (by omega) (show 24<=i by omega)))
    rw[this]at hi;cases hi
  rw[this,if_neg (by simp)]
 ·unfold fM jX
  rw[if_neg (by omega)]
structure FA (k:Nat) (cnt:CT) (R B pe:Nat):Prop where
 steps:cnt.1=(k:Int)
 moves:(k:Int)<=cnt.2.1∧cnt.2.1<=24*(k:Int)
 rounds:cnt.2.2.1=(R:Int)
 begun:cnt.2.2.2.1=(B:Int)
 pend:cnt.2.2.2.2=(pe:Int)
 le:R<=B∧B<=k∧B<=R+1
 p24:pe<16777216
theorem FA.valid {k:Nat} {cnt:CT} {R B pe:Nat} (h:FA k cnt R B pe) (hk:k<=1000):gZ 1000 cnt=some true:=by
 obtain⟨a,b,c,d,e,f,g⟩:=h
 have hp:=EF [(pe:Int)] (by simp) fun x hx=>by
  have hx:x=(pe:Int):=by simpa using hx
  exact⟨pe,hx,g⟩
 unfold gZ
 rw[a,c,d,if_neg (by omega),if_neg (by omega),if_neg (by omega),if_neg (by omega),decide_eq_false (by omega)]
 unfold fD iO
 rw[a,c,d,e,if_neg (by decide),dU (by omega),if_neg (by omega),if_pos b.1,wr (by omega) (by omega),if_pos b.2,bB hp]
theorem FA.add {k:Nat} {cnt:CT} {R B pe:Nat} (h:FA k cnt R B pe) (hk:k<900) {t en:Nat} (ht:t<16777216) (h0:t≠0) (hen:en<16777216) {cnt':CT} {err:Int} (hadd:jA 1000 cnt (t:Int) (en:Int)=some (cnt',err)):
  ∃pe':Nat,(∀i,pe'.testBit i=(pe.testBit i && !t.testBit i&&en.testBit i))∧((pe'=0∧FA (k+1) cnt' (R+1) (R+1) en)∨(pe'≠0∧FA (k+1) cnt' R (R+1) pe')):=by
 have hv:=h.valid (by omega)
 obtain⟨a,b,c,d,e,f,g⟩:=h
 obtain⟨n,hn,hn1,hn2⟩:=Vu ht h0
 have hp:=EF [(t:Int),(en:Int)] (by simp) fun x hx=>by
  have hx:x=(t:Int)∨x=(en:Int):=by simpa using hx
  rcases hx with rfl|rfl
  ·exact⟨t,rfl,ht⟩
  ·exact⟨en,rfl,hen⟩
 have hdl:BM pe t<4294967296:=KA pe t
 have hpb:∀i,(BM pe t &&& en).testBit i=(pe.testBit i && !t.testBit i&&en.testBit i):=fun i=>by
  rw[Nat.testBit_and,DV (by omega) (by omega)]
 have hp24:BM pe t &&& en<16777216:=Nat.lt_of_le_of_lt Nat.and_le_right hen
 unfold jA at hadd
 rw[bB (show gZ 1000 _=some true from hv),if_neg (by decide),if_neg (by omega),bB hp]at hadd
 unfold mZ m_ at hadd
 dsimp only at hadd
 rw[a,c,e,if_neg (by decide),if_neg (by omega),bB hn,FS,BL hdl (by omega),dU (by omega),dU (by omega),wr (by omega) (by omega)]at hadd
 refine⟨BM pe t &&& en,hpb,?_⟩
 by_cases hz:BM pe t &&& en=0
 ·rw[if_pos (by rw[hz];rfl)]at hadd
  have:=Option.some.inj hadd
  obtain⟨rfl,_⟩:=Prod.mk.inj this
  exact .inl ⟨hz,rfl,⟨by dsimp only;omega,by dsimp only;omega⟩,rfl,rfl,rfl,by omega,hen⟩
 ·rw[if_neg (by omega)]at hadd
  have:=Option.some.inj hadd
  obtain⟨rfl,_⟩:=Prod.mk.inj this
  exact .inr ⟨hz,rfl,⟨by dsimp only;omega,by dsimp only;omega⟩,rfl,rfl,rfl,by omega,hp24⟩
end
section
def vT:E:= .ite (.bi 37 (.ag 24 (.lf 12 0)) (.lf 6 0)) (.bi 33 (.ag 24 (.lf 12 0)) (.lf 1 1)) (.lf 6 0)
def Zg:E:= .ag 23 (.bi 35 (.lf 12 0) (.ag 24 (.lf 12 0)))
def ZS:E:= .bi 41 (.lf 10 0) (.bi 42 (.bi 36 (.lf 5 0) (.lf 1 0)) (.bi 36 (.lf 5 1) (.lf 4 0)))
def ZR:E:= .bi 41 (.un 19 (.lf 10 0)) (.bi 42 (.bi 36 (.lf 5 0) vT) (.bi 36 (.lf 5 1) Zg))
def RB:List RL:=[(ZS,[(0,.lf 1 0),(1,.lf 4 0)]),(ZR,[(0,vT),(1,Zg)])]
theorem Om:uH 2 RB=true:=by decide +kernel
theorem Jh (g:GR) (v:Nat):lo g (at' fX ((0:Nat):Int)) v=0:=rfl
theorem XM (g:GR) (v:Nat):lo g (at' fX ((1:Nat):Int)) v = -1:=rfl
theorem Ja (g:GR) (v:Nat):hi g (at' fX ((0:Nat):Int)) v=(g.2.length:Int):=by
 show(0:Int)+1*(g.2.length:Int)+0*gJ g g.1.length=_
 omega
theorem XE (g:GR) (v:Nat):hi g (at' fX ((1:Nat):Int)) v=((row g v).length:Int) - 1:=rfl
theorem Ws {g:GR} (hV:VG g):zE g fX:=by
 have h24:=hV.n24
 refine⟨by decide,Oq,fun x hx=> ?_,fun x hx hk=> ?_⟩
 ·have hx:x<2:=hx
  match x,hx with
  |0,_=>exact .inl rfl
  |1,_=>exact .inr (.inr rfl)
 ·have hx:x<2:=hx
  match x,hx,hk with
  |0,_,_=>rw[Jh,Ja];omega
  |1,_,hk=>exact absurd hk (by decide)
def Qf (c:aX) (v:Nat):Int:=at' (at' c (v:Int)) 1
def MJ (g:GR) (c:aX) (v:Nat):aL:=(List.range (row g v).length).map fun q=>Ee g c v q
def XB (g:GR) (c:aX) (v:Nat):Int:=if AO (MJ g c v)<(g.1.length:Int)then VE (wI .i64 (AO (MJ g c v)+1))else(g.1.length:Int)
def YB (g:GR) (c:aX) (v:Nat):Int:=uD ((List.range (row g v).length).map fun q=>DO (decide (Ee g c v q=AO (MJ g c v))))
def TB (g:GR) (c:aX) (v:Nat):eZ:=if v=0 then(0,-1)else(XB g c v,YB g c v)
def Dj (g:GR) (c:aX) (v:Nat):Prop:=Ai c v=(TB g c v).1∧Qf c v=(TB g c v).2
theorem Ah (b:Bool):DO b≠0↔b=true:=by cases b<;>simp[DO]
theorem aab (b:Bool):DO b=0↔b=false:=by cases b<;>simp[DO]
section
variable {p:BC} {g:GR} {c:List (List Int)} {v:Nat}
theorem RA:pG (bI p g) c v vT=XB g c v:=by
 show(if DO (decide (AO (MJ g c v)<(g.1.length:Int)))≠0 then VE (wI .i64 (AO (MJ g c v)+1))else(g.1.length:Int))=_
 unfold XB
 by_cases h:AO (MJ g c v)<(g.1.length:Int)
 ·rw[if_pos h,if_pos (by rw[Ah];exact decide_eq_true h)]
 ·rw[if_neg h,if_neg (by rw[Ah];simpa using h)]
theorem RD:pG (bI p g) c v Zg=YB g c v:=rfl
theorem XD:pG (bI p g) c v ZS=DO (decide (DO (decide ((v:Int)=0))≠0)&&decide (DO (decide (DO (decide (Ai c v≠0))≠0)||decide (DO (decide (Qf c v ≠ -1))≠0))≠0)):=rfl
theorem XC:pG (bI p g) c v ZR=DO (decide (DO (decide (DO (decide ((v:Int)=0))=0))≠0)&&decide (DO (decide (DO (decide (Ai c v≠pG (bI p g) c v vT))≠0)||decide (DO (decide (Qf c v≠pG (bI p g) c v Zg))≠0))≠0)):=rfl
theorem NP:pG (bI p g) c v ZS≠0↔v=0∧(Ai c v≠0∨Qf c v ≠ -1):=by
 rw[XD,Ah,Bool.and_eq_true,decide_eq_true_eq,decide_eq_true_eq,Ah,Ah,Bool.or_eq_true,decide_eq_true_eq,decide_eq_true_eq,decide_eq_true_eq,Ah,Ah,decide_eq_true_eq,decide_eq_true_eq]
 constructor
 ·rintro⟨a,b⟩;exact⟨by omega,b⟩
 ·rintro⟨a,b⟩;exact⟨by omega,b⟩
theorem NO:pG (bI p g) c v ZR≠0↔v≠0∧(Ai c v≠XB g c v∨Qf c v≠YB g c v):=by
 rw[XC,RA,RD,Ah,Bool.and_eq_true,decide_eq_true_eq,decide_eq_true_eq,Ah,Ah,Bool.or_eq_true,decide_eq_true_eq,decide_eq_true_eq,decide_eq_true_eq,aab,Ah,Ah,decide_eq_true_eq,decide_eq_true_eq,decide_eq_false_iff_not]
 constructor
 ·rintro⟨a,b⟩;exact⟨by omega,b⟩
 ·rintro⟨a,b⟩;exact⟨by omega,b⟩
theorem Lc (h:0<=oO (bI p g) RB c v):(oO (bI p g) RB c v=0∧v=0∧¬Dj g c v)∨(oO (bI p g) RB c v=1∧v≠0∧¬Dj g c v):=by
 obtain⟨i,h1,h2,h3⟩:=(GG (bI p g) RB c v).resolve_left (fun e=>by omega)
 have h2:i<2:=h2
 match i,h2 with
 |0,_=>
  obtain⟨a,b⟩:=NP.1 h3
  refine .inl ⟨h1,a,?_⟩
  unfold Dj TB
  rw[if_pos a]
  rintro⟨e1,e2⟩
  rcases b with b|b
  ·exact b e1
  ·exact b e2
 |1,_=>
  obtain⟨a,b⟩:=NO.1 h3
  refine .inr ⟨h1,a,?_⟩
  unfold Dj TB
  rw[if_neg a]
  rintro⟨e1,e2⟩
  rcases b with b|b
  ·exact b e1
  ·exact b e2
theorem Ih (h:¬0<=oO (bI p g) RB c v):Dj g c v:=by
 have e:oO (bI p g) RB c v = -1:=by
  rcases GG (bI p g) RB c v with e|⟨i,h1,_⟩
  ·exact e
  ·omega
 have a0:¬pG (bI p g) c v ZS≠0:=fun q=>q (GI.1 e 0 (by decide))
 have a1:¬pG (bI p g) c v ZR≠0:=fun q=>q (GI.1 e 1 (by decide))
 rw[NP]at a0
 rw[NO]at a1
 unfold Dj TB
 by_cases hv:v=0
 ·rw[if_pos hv]
  exact⟨Decidable.not_not.1 fun q=>a0 ⟨hv,.inl q⟩,Decidable.not_not.1 fun q=>a0 ⟨hv,.inr q⟩⟩
 ·rw[if_neg hv]
  exact⟨Decidable.not_not.1 fun q=>a1 ⟨hv,.inl q⟩,Decidable.not_not.1 fun q=>a1 ⟨hv,.inr q⟩⟩
theorem PN:¬0<=oO (bI p g) RB c v↔Dj g c v:=by
 refine⟨Ih,fun h q=> ?_⟩
 rcases Lc q with⟨_,_,e⟩|⟨_,_,e⟩<;>exact e h
theorem Vs (hV:VG g) (hc:JG g c fX) (hv:v<g.2.length) {i:Nat} (hi:i<(row g v).length):0<=Ee g c v i∧Ee g c v i<=(g.2.length:Int):=by
 obtain⟨u,hu,hue,_⟩:=hV.port hv hi
 rw[Dh hue]
 have:=hc.ok u hu 0 (by decide)
 rw[Jh,Ja]at this
 exact this
theorem XO {x:Int} (h:x∈MJ g c v):∃i,i<(row g v).length∧Ee g c v i=x:=by
 obtain⟨i,hi,he⟩:=List.mem_map.1 h
 exact⟨i,List.mem_range.1 hi,he⟩
theorem VZ (hV:VG g) (hc:JG g c fX) (hv:v<g.2.length):0<=XB g c v∧XB g c v<=(g.2.length:Int)∧(∀i,i<(row g v).length->XB g c v<=Ee g c v i+1)∧(XB g c v=(g.2.length:Int)∨∃i,i<(row g v).length∧XB g c v=Ee g c v i+1):=by
 have h24:=hV.n24
 have hlen:=hV.len
 have hle:∀i,i<(row g v).length->AO (MJ g c v)<=Ee g c v i:=fun i hi=>Vp (List.mem_map.2 ⟨i,List.mem_range.2 hi,rfl⟩)
 unfold XB
 by_cases h:AO (MJ g c v)<(g.1.length:Int)
 ·rw[if_pos h]
  rcases Sp (MJ g c v)with e|e
  ·omega
  ·obtain⟨i,hi,he⟩:=XO e
   have hb:=Vs hV hc hv hi
   have hs:VE (wI .i64 (AO (MJ g c v)+1))=AO (MJ g c v)+1:=by
    rw[wr (by omega) (by omega)];unfold VE;omega
   rw[hs]
   refine⟨by omega,by omega,fun j hj=> ?_,.inr ⟨i,hi,by omega⟩⟩
   have:=hle j hj
   omega
 ·rw[if_neg h]
  refine⟨by omega,by omega,fun j hj=> ?_,.inl (by omega)⟩
  have:=hle j hj
  omega
theorem Pn (l:List Int) : -1<=uD l∧uD l<=(l.length:Int) - 1:=by
 unfold uD
 cases h:l.findIdx? nz with
 |none=>dsimp only;omega
 |some i=>
  obtain⟨hi,_⟩:=List.findIdx?_eq_some_iff_getElem.1 h
  dsimp only;omega
theorem YU : -1<=YB g c v∧YB g c v<=((row g v).length:Int) - 1:=by
 have:=Pn ((List.range (row g v).length).map fun q=>DO (decide (Ee g c v q=AO (MJ g c v))))
 rw[List.length_map,List.length_range]at this
 exact this
theorem VX (hV:VG g) (hc:JG g c fX) (hv:v<g.2.length):(0<=(TB g c v).1∧(TB g c v).1<=(g.2.length:Int)) ∧ -1<=(TB g c v).2∧(TB g c v).2<=((row g v).length:Int) - 1:=by
 unfold TB
 split
 ·dsimp only;omega
 ·obtain⟨a,b,_⟩:=VZ hV hc hv
  exact⟨⟨a,b⟩,YU⟩
theorem ZC (l:List Int) (h:l.length=2) (x y:Int):at' ((l.set 0 x).set 1 y) 0=x∧at' ((l.set 0 x).set 1 y) 1=y:=by
 match l,h with
 | [a,b],_=>exact⟨rfl,rfl⟩
theorem CR {k a b x:Int} (h1:a<=x) (h2:x<=b):zI k (a,b) x=x:=by unfold zI;rw[if_pos ⟨h1,h2⟩]
theorem Zw (hV:VG g) (hc:JG g c fX) (hv:v<g.2.length) (h:0<=oO (bI p g) RB c v):at' (Aj (bI p g) fX RB c v (oO (bI p g) RB c v)) 0=(TB g c v).1∧at' (Aj (bI p g) fX RB c v (oO (bI p g) RB c v)) 1=(TB g c v).2:=by
 have hr:(at' c (v:Int)).length=2:=hc.row v hv
 have e0:wL g fX v 0=(0,(g.2.length:Int)):=by unfold wL;rw[Jh,Ja]
 have e1:wL g fX v 1=(-1,((row g v).length:Int) - 1):=by unfold wL;rw[XM,XE]
 obtain⟨⟨t1,t2⟩,t3,t4⟩:=VX hV hc hv
 rcases Lc h with⟨e,a,_⟩|⟨e,a,_⟩
 ·have em:Aj (bI p g) fX RB c v 0=((at' c (v:Int)).set 0 (zI 1 (wL g fX v 0) 0)).set 1 (zI 3 (wL g fX v 1) (-1)):=rfl
  have et:TB g c v=(0,-1):=by unfold TB;rw[if_pos a]
  rw[et]at t4 t2 ⊢
  dsimp only at t4 t2
  rw[e,em,e0,e1,CR (by omega) (by omega),CR (by omega) (by omega)]
  exact ZC _ hr _ _
 ·have em:Aj (bI p g) fX RB c v 1=((at' c (v:Int)).set 0 (zI 1 (wL g fX v 0) (pG (bI p g) c v vT))).set 1 (zI 3 (wL g fX v 1) (pG (bI p g) c v Zg)):=rfl
  have et:TB g c v=(XB g c v,YB g c v):=by unfold TB;rw[if_neg a]
  rw[et]at t1 t2 t3 t4 ⊢
  dsimp only at t1 t2 t3 t4
  rw[e,em,e0,e1,RA,RD,CR (by omega) (by omega),CR (by omega) (by omega)]
  exact ZC _ hr _ _
theorem TR {c':List (List Int)} (hV:VG g) (hv:v<g.2.length) (h:∀u,u<g.2.length->Ai c' u=Ai c u):TB g c' v=TB g c v:=by
 have hn:∀i,i<(row g v).length->Ee g c' v i=Ee g c v i:=fun i hi=>by
  obtain⟨u,hu,hue,_⟩:=hV.port hv hi
  rw[Dh hue,Dh hue,h u hu]
 have hl:MJ g c' v=MJ g c v:=List.map_congr_left fun i hi=>hn i (List.mem_range.1 hi)
 have hy:YB g c' v=YB g c v:=by
  unfold YB
  rw[hl]
  congr 1
  exact List.map_congr_left fun i hi=>by rw[hn i (List.mem_range.1 hi)]
 unfold TB
 rw[hy]
 unfold XB
 rw[hl]
end

structure OT (g:GR) (c0:List (List Int)) (d:Nat) (w:Nat->Int):Prop where
 dead:∀v,v<g.2.length->d.testBit v=true->w v=Ai c0 v
 root:d.testBit 0=false->w 0=0
 le:∀v,v<g.2.length->0<=w v∧w v<=(g.2.length:Int)
 nb:∀v i u:Nat,0<v->v<g.2.length->d.testBit v=false->i<(row g v).length->(gR (row g v) i).1=(u:Int)->w v<=w u+1
 at_:∀v,0<v->v<g.2.length->d.testBit v=false->w v=(g.2.length:Int)∨∃i u:Nat,i<(row g v).length∧(gR (row g v) i).1=(u:Int)∧u<g.2.length∧w v=w u+1
theorem VU {g:GR} {c0:List (List Int)} {d:Nat} (hG:DG g c0) {l:List Int} (hs:Qd g c0 d l) (hc:TG g c0 d g.2.length l):OT g c0 d (D l):=by
 have hn:=hG.v.n1
 have hall:∀{j v:Nat} {m:Int},Wk g c0 d j v m->D l v<=m:=fun hw=>hc.all hG (Nat.le_refl _) hw
 refine⟨fun v hv hd=> ?_,fun hd=> ?_,fun v hv=> ?_,fun v i u h0 hv hd hi hu=> ?_,fun v h0 hv hd=> ?_⟩
 ·obtain⟨k,hw⟩:=hs.ok v hv
  generalize hx:D l v=x at hw
  cases hw with
  |dead _ _=>rfl
  |root h=>rw[h]at hd;cases hd
  |init _ _ h=>rw[h]at hd;cases hd
  |step _ _ h _ _ _=>rw[h]at hd;cases hd
 ·obtain⟨k,hw⟩:=hs.ok 0 (by omega)
  generalize hx:D l 0=x at hw
  cases hw with
  |dead _ h=>rw[h]at hd;cases hd
  |root h=>rfl
  |init h _ _=>omega
  |step h _ _ _ _ _=>omega
 ·obtain⟨k,hw⟩:=hs.ok v hv
  have hge:=hw.ge hG
  refine⟨by omega,?_⟩
  cases hd:d.testBit v with
  |true=>exact Int.le_trans (hall (.dead hv hd)) (hG.val0 hv).2
  |false=>
   by_cases h0:v=0
   ·subst h0;have:=hall (.root hd);omega
   ·exact hall (.init (by omega) hv hd)
 ·have hun:u<g.2.length:=by
   obtain⟨u',hu',hue,_⟩:=hG.v.port hv hi
   have:(u:Int)=u':=by rw[<-hu,hue]
   omega
  obtain⟨k,hw⟩:=hs.ok u hun
  exact hall (.step h0 hv hd hi hu hw)
 ·obtain⟨k,hw⟩:=hs.ok v hv
  generalize hx:D l v=x at hw
  cases hw with
  |dead _ h=>rw[h]at hd;cases hd
  |root h=>omega
  |init _ _ _=>exact .inl rfl
  | @step _ i u k' m h1 h2 h3 hi hu hw'=>
   have hun:=hw'.lt (by omega)
   have a:=hall hw'
   obtain⟨k2,hw2⟩:=hs.ok u hun
   have b:=hall (.step h0 hv hd hi hu hw2)
   exact .inr ⟨i,u,hi,hu,hun,by omega⟩
def Cl (k:Nat) (x y:Int):Prop:=(y<(k:Int)->x=y)∧((k:Int)<=y->(k:Int)<=x)
theorem Cl.down {k:Nat} {x y:Int} (h:Cl (k+1) x y):Cl k x y:=by
 obtain⟨a,b⟩:=h
 refine⟨fun h=>a (by omega),fun h=> ?_⟩
 by_cases e:y<((k+1:Nat):Int)
 ·rw[a e];exact h
 ·have:=b (by omega);omega
theorem Cl.refl {k:Nat} {x:Int}:Cl k x x:=⟨fun _=>rfl,fun h=>h⟩
theorem HK {g:GR} {c0 c:List (List Int)} {d k:Nat} {w:Nat->Int} (hV:VG g) (hW:OT g c0 d w) (hc:JG g c fX) (h:∀u,u<g.2.length->Cl k (Ai c u) (w u)) {v:Nat} (hv:v<g.2.length) (hd:d.testBit v=false):Cl (k+1) (TB g c v).1 (w v):=by
 unfold TB
 by_cases h0:v=0
 ·subst h0
  rw[if_pos rfl,hW.root hd]
  exact Cl.refl
 rw[if_neg h0]
 dsimp only
 obtain⟨x0,xn,xle,xin⟩:=VZ hV hc hv
 have w0:=hW.le v hv
 have hp:0<v:=Nat.pos_of_ne_zero h0
 have hat:=hW.at_ v hp hv hd
 have hX:XB g c v=(g.2.length:Int)∨∃u,u<g.2.length∧XB g c v=Ai c u+1∧w v<=w u+1:=by
  rcases xin with e|⟨i,hi,e⟩
  ·exact .inl e
  ·obtain⟨u,hu,hue,_⟩:=hV.port hv hi
   rw[Dh hue]at e
   exact .inr ⟨u,hu,e,hW.nb v i u hp hv hd hi hue⟩
 refine⟨fun hlt=> ?_,fun hge=> ?_⟩
 ·have hup:XB g c v<=w v:=by
   rcases hat with e|⟨i,u,hi,hue,hu,e⟩
   ·omega
   ·have:=xle i hi
    rw[Dh hue,(h u hu).1 (by omega)]at this
    omega
  rcases hX with e|⟨u,hu,e,hwu⟩
  ·omega
  ·by_cases hk:w u<(k:Int)
   ·rw[(h u hu).1 hk]at e;omega
   ·have:=(h u hu).2 (by omega);omega
 ·rcases hX with e|⟨u,hu,e,hwu⟩
  ·omega
  ·have:=(h u hu).2 (by omega);omega
theorem VF {g:GR} {c0 c:List (List Int)} {d:Nat} {w:Nat->Int} (hV:VG g) (hW:OT g c0 d w) (hc:JG g c fX) (hdead:∀v,v<g.2.length->d.testBit v=true->Ai c v=w v) (hoff:∀v,v<g.2.length->d.testBit v=false->Dj g c v) {v:Nat} (hv:v<g.2.length):Ai c v=w v:=by
 have key:∀k:Nat,∀u,u<g.2.length->Cl k (Ai c u) (w u):=by
  intro k
  induction k with
  |zero=>
   intro u hu
   have a:=hc.ok u hu 0 (by decide)
   rw[Jh,Ja]at a
   have b:=hW.le u hu
   have a1:0<=Ai c u:=a.1
   exact⟨fun q=>by omega,fun q=>by omega⟩
  |succ k ih=>
   intro u hu
   cases hd:d.testBit u with
   |true=>rw[hdead u hu hd];exact Cl.refl
   |false=>rw[(hoff u hu hd).1];exact HK hV hW hc ih hu hd
 have:=hW.le v hv
 exact(key (g.2.length+1) v hv).1 (by omega)
end
section
structure TI (p:BC) (g:GR) (d lv:Nat) (w:Nat->Int) (k:Nat) (c:aX) (cnt:CT) (R B pe:Nat):Prop where
 cnt:FA k cnt R B pe
 r:JG g c fX
 dead:∀v,v<g.2.length->d.testBit v=true->Ai c v=w v
 cl:∀v,v<g.2.length->Cl R (Ai c v) (w v)
 ncl:∀v,v<g.2.length->d.testBit v=false->pe.testBit v=false->Cl (R+1) (Ai c v) (w v)
 fin:g.2.length<=R->∀v,v<g.2.length->d.testBit v=false->pe.testBit v=false->Dj g c v
 top:R<=g.2.length+1
 last:R=g.2.length+1->vE (bI p g) RB lv c=0
 bg:B<=g.2.length+1
section
variable {p:BC} {g:GR} {c0 c:List (List Int)} {d lv:Nat} {w:Nat->Int}
theorem Ef (hlv:∀i,i<32->lv.testBit i = !d.testBit i) (hV:VG g) {v:Nat} (hv:v<g.2.length) (hd:d.testBit v=false) (h:(vE (bI p g) RB lv c).testBit v=false):Dj g c v:=by
 have h24:=hV.n24
 refine Ih (p:=p) fun q=> ?_
 have:(vE (bI p g) RB lv c).testBit v=true:=(CY (bI p g) RB lv c v).2 ⟨hv,q,by rw[hlv v (by omega),hd];rfl⟩
 rw[this]at h;cases h
theorem UO (hlv:∀i,i<32->lv.testBit i = !d.testBit i) (hV:VG g) (h:∀v,v<g.2.length->d.testBit v=false->Dj g c v):vE (bI p g) RB lv c=0:=by
 have h24:=hV.n24
 refine Nat.eq_of_testBit_eq fun i=> ?_
 rw[Nat.zero_testBit]
 cases hb:(vE (bI p g) RB lv c).testBit i with
 |false=>rfl
 |true=>
  obtain⟨h1,h2,h3⟩:=(CY (bI p g) RB lv c i).1 hb
  have h1:i<g.2.length:=h1
  rw[hlv i (by omega)]at h3
  exact absurd h2 (PN.2 (h i h1 (by simpa using h3)))
theorem Ye (hV:VG g) (hW:OT g c0 d w) (hlv:∀i,i<32->lv.testBit i = !d.testBit i) (hc:JG g c fX) (hdead:∀v,v<g.2.length->d.testBit v=true->Ai c v=w v):
  TI p g d lv w 0 c (0,0,0,0,cS .u32 ((vE (bI p g) RB lv c:Nat):Int) 16777215) 0 0 (vE (bI p g) RB lv c):=by
 have hn:=hV.n1
 have h24:vE (bI p g) RB lv c<16777216:=OI.lt hV (Mu (bI p g) RB lv c)
 have hpe:cS .u32 ((vE (bI p g) RB lv c:Nat):Int) 16777215=((vE (bI p g) RB lv c:Nat):Int):=by
  rw[show(16777215:Int)=((16777215:Nat):Int)from rfl,BL (by omega) (by omega),show(16777215:Nat)=2^24 - 1 from rfl,Nat.and_two_pow_sub_one_eq_mod,Nat.mod_eq_of_lt (by omega)]
 have hcl:∀v,v<g.2.length->Cl 0 (Ai c v) (w v):=fun v hv=>by
  have a:=hc.ok v hv 0 (by decide)
  rw[Jh,Ja]at a
  have a1:0<=Ai c v:=a.1
  have b:=hW.le v hv
  exact⟨fun q=>by omega,fun q=>by omega⟩
 refine⟨⟨rfl,⟨by dsimp only;omega,by dsimp only;omega⟩,rfl,rfl,hpe,by omega,h24⟩,hc,hdead,hcl,fun v hv hd hp=> ?_,fun h=>by omega,by omega,fun h=>by omega,by omega⟩
 have:=Ef (p:=p) hlv hV hv hd hp
 rw[this.1]
 exact HK hV hW hc hcl hv hd
theorem ZF (hV:VG g) (hW:OT g c0 d w) (hlv:∀i,i<32->lv.testBit i = !d.testBit i) {k:Nat} (hk:k<900) {cnt:CT} {R B pe:Nat} (hI:TI p g d lv w k c cnt R B pe) {t:Nat} (hen:vE (bI p g) RB lv c≠0) (ht0:t≠0) (hsub:∀i,t.testBit i=true->(vE (bI p g) RB lv c).testBit i=true) {cnt':CT} {err:Int}
  (hadd:jA 1000 cnt (t:Int) ((vE (bI p g) RB lv (h_ (bI p g) fX RB c t):Nat):Int)=some (cnt',err)):
  ∃R' B' pe',TI p g d lv w (k+1) (h_ (bI p g) fX RB c t) cnt' R' B' pe'∧(t=vE (bI p g) RB lv c->pe=vE (bI p g) RB lv c->R'=R+1∧pe'=vE (bI p g) RB lv (h_ (bI p g) fX RB c t)):=by
 have h24:=hV.n24
 have hc:=hI.r
 have hcl:=hc.len
 have hin:∀v,t.testBit v=true->v<g.2.length∧0<=oO (bI p g) RB c v∧d.testBit v=false:=fun v hv=>by
  obtain⟨h1,h2,h3⟩:=(CY (bI p g) RB lv c v).1 (hsub v hv)
  have h1:v<g.2.length:=h1
  rw[hlv v (by omega)]at h3
  exact⟨h1,h2,by simpa using h3⟩
 have hrow:∀v,v<g.2.length->(at' c (v:Int)).length=2:=fun v hv=>hc.row v hv
 have hat:∀v,v<g.2.length->at' (h_ (bI p g) fX RB c t) (v:Int)=if t.testBit v=true then Aj (bI p g) fX RB c v (oO (bI p g) RB c v)else at' c (v:Int):=fun v hv=>Ll (by rw[hcl];exact hv)
 have hc1:∀v,t.testBit v=true->Ai (h_ (bI p g) fX RB c t) v=(TB g c v).1∧Qf (h_ (bI p g) fX RB c t) v=(TB g c v).2:=fun v hv=>by
  obtain⟨h1,h2,_⟩:=hin v hv
  unfold Ai Qf
  rw[hat v h1,if_pos hv]
  exact Zw hV hc h1 h2
 have hc0:∀v,v<g.2.length->t.testBit v=false->Ai (h_ (bI p g) fX RB c t) v=Ai c v∧Qf (h_ (bI p g) fX RB c t) v=Qf c v:=fun v hv hb=>by
  unfold Ai Qf
  rw[hat v hv,if_neg (by rw[hb];decide)]
  exact⟨rfl,rfl⟩
 have hr':JG g (h_ (bI p g) fX RB c t) fX:=by
  refine⟨by rw[Ii,hcl],fun v hv=> ?_,fun v hv x hx=> ?_⟩
  ·rw[hat v hv]
   split
   ·rw[H_];exact hrow v hv
   ·exact hrow v hv
  ·have hx:x<2:=hx
   obtain⟨⟨t1,t2⟩,t3,t4⟩:=VX hV hc hv
   match x,hx with
   | 0, _ =>
    rw[Jh,Ja]
    show 0<=Ai (h_ (bI p g) fX RB c t) v∧Ai (h_ (bI p g) fX RB c t) v<=_
    cases hb:t.testBit v with
    |true=>rw[(hc1 v hb).1];exact⟨t1,t2⟩
    |false=>
     have:=hc.ok v hv 0 (by decide)
     rw[Jh,Ja]at this
     rw[(hc0 v hv hb).1];exact this
   | 1, _ =>
    rw[XM,XE]
    show -1<=Qf (h_ (bI p g) fX RB c t) v∧Qf (h_ (bI p g) fX RB c t) v<=_
    cases hb:t.testBit v with
    |true=>rw[(hc1 v hb).2];exact⟨t3,t4⟩
    |false=>
     have:=hc.ok v hv 1 (by decide)
     rw[XM,XE]at this
     rw[(hc0 v hv hb).2];exact this
 have ht24:t<16777216:=OI.lt hV (fun i hi=>(hin i hi).1)
 have he24:vE (bI p g) RB lv (h_ (bI p g) fX RB c t)<16777216:=OI.lt hV (Mu (bI p g) RB lv _)
 have hRn:R<=g.2.length:=by
  have:=hI.top
  by_cases e:R=g.2.length+1
  ·exact absurd (hI.last e) hen
  ·omega
 obtain⟨pe',hpe,hcase⟩:=hI.cnt.add hk ht24 ht0 he24 hadd
 have hdead':∀v,v<g.2.length->d.testBit v=true->Ai (h_ (bI p g) fX RB c t) v=w v:=fun v hv hd=>by
  have hb:t.testBit v=false:=by
   cases hb:t.testBit v with
   |false=>rfl
   |true=>rw[(hin v hb).2.2]at hd;cases hd
  rw[(hc0 v hv hb).1];exact hI.dead v hv hd
 have hcl':∀v,v<g.2.length->Cl R (Ai (h_ (bI p g) fX RB c t) v) (w v):=fun v hv=>by
  cases hb:t.testBit v with
  |true=>
   obtain⟨h1,_,h3⟩:=hin v hb
   rw[(hc1 v hb).1]
   exact(HK hV hW hc hI.cl h1 h3).down
  |false=>rw[(hc0 v hv hb).1];exact hI.cl v hv
 have hgood:∀v,v<g.2.length->d.testBit v=false->pe'.testBit v=false->Cl (R+1) (Ai (h_ (bI p g) fX RB c t) v) (w v):=fun v hv hd hp=>by
  cases hb:t.testBit v with
  |true=>
   rw[(hc1 v hb).1]
   exact HK hV hW hc hI.cl hv hd
  | false =>
   cases he:(vE (bI p g) RB lv (h_ (bI p g) fX RB c t)).testBit v with
   |false=>
    rw[(Ef (p:=p) hlv hV hv hd he).1]
    exact HK hV hW hr' hcl' hv hd
   |true=>
    rw[hpe,hb,he]at hp
    rw[(hc0 v hv hb).1]
    exact hI.ncl v hv hd (by simpa using hp)
 -- when all distances are right they stay,and so do the nodes that have come to rest
 have hfin:g.2.length<=R->∀v,v<g.2.length->d.testBit v=false->pe'.testBit v=false->Dj g (h_ (bI p g) fX RB c t) v:=fun hR v hv hd hp=>by
  have heq:∀u,u<g.2.length->Ai c u=w u:=fun u hu=>by
   have a:=hI.cl u hu
   have b:=hW.le u hu
   have e:=hc.ok u hu 0 (by decide)
   rw[Jh,Ja]at e
   have e2:Ai c u<=(g.2.length:Int):=e.2
   by_cases q:w u<(R:Int)
   ·exact a.1 q
   ·have:=a.2 (by omega);omega
  have heq':∀u,u<g.2.length->Ai (h_ (bI p g) fX RB c t) u=w u:=fun u hu=>by
   have a:=hcl' u hu
   have b:=hW.le u hu
   have e:=hr'.ok u hu 0 (by decide)
   rw[Jh,Ja]at e
   have e2:Ai (h_ (bI p g) fX RB c t) u<=(g.2.length:Int):=e.2
   by_cases q:w u<(R:Int)
   ·exact a.1 q
   ·have:=a.2 (by omega);omega
  have hT:TB g (h_ (bI p g) fX RB c t) v=TB g c v:=TR hV hv fun u hu=>by rw[heq u hu,heq' u hu]
  cases hb:t.testBit v with
  |true=>unfold Dj;rw[hT];exact hc1 v hb
  | false =>
   cases he:(vE (bI p g) RB lv (h_ (bI p g) fX RB c t)).testBit v with
   |false=>exact Ef (p:=p) hlv hV hv hd he
   |true=>
    rw[hpe,hb,he]at hp
    have:=hI.fin hR v hv hd (by simpa using hp)
    unfold Dj at this ⊢
    rw[hT,(hc0 v hv hb).1,(hc0 v hv hb).2]
    exact this
 have hzero:pe'=0->∀v,pe'.testBit v=false:=fun e v=>by rw[e];exact Nat.zero_testBit v
 rcases hcase with⟨hz,hcnt⟩|⟨hz,hcnt⟩
 ·have hcl2:∀v,v<g.2.length->Cl (R+1) (Ai (h_ (bI p g) fX RB c t) v) (w v):=fun v hv=>by
   cases hd:d.testBit v with
   |true=>rw[hdead' v hv hd];exact Cl.refl
   |false=>exact hgood v hv hd (hzero hz v)
  refine⟨R+1,R+1,_,⟨hcnt,hr',hdead',hcl2,fun v hv hd hp=> ?_,fun hR v hv hd hp=>Ef (p:=p) hlv hV hv hd hp,by omega,fun hR=> ?_,by omega⟩,fun _ _=>⟨rfl,rfl⟩⟩
  ·rw[(Ef (p:=p) hlv hV hv hd hp).1]
   exact HK hV hW hr' hcl2 hv hd
  ·exact UO hlv hV fun v hv hd=>hfin (by omega) v hv hd (hzero hz v)
 ·refine⟨R,R+1,pe',⟨hcnt,hr',hdead',hcl',hgood,hfin,by omega,fun hR=>by omega,by omega⟩,fun e1 e2=> ?_⟩
  refine absurd (Nat.eq_of_testBit_eq fun i=> ?_) hz
  rw[hpe,e2,<-e1,Nat.zero_testBit]
  cases t.testBit i<;>rfl
end
end
end Go.Proofs.YtigggfnchamobaaGreatDoor
end
section
namespace Go.Proofs.YtigggfnchamobaaGreatDoor
open Go.Sx
section
def pV (U:Nat) (p0:rO) (p1:cM) (p2:aX):Option (Bool):=
 Option.bind (kY U ((p0.1,p0.2.1,p0.2.2)) ((p1.1,p1.2)) p2) fun r3=>(some (decide (r3=(0:Int))))
theorem WZ:aO Tryz.prog 55:=Tryz.call55
theorem GU (U:Nat) {p0:rO} {p1:cM} {p2:aX} (v0:Value)  (v1:Value)  (v2:Value)  (v3:Value)  (z4:mB)  (v5:Value)  (z6:pJ) (r:Bool) (h:pV U p0 p1 p2=some r):
  aT Tryz.prog 55 #[Value.agg #[vS (p0.1),v0,v1],Value.agg #[v2,v3],v5] [Sl aG v0 p0.2.1,Sl aE v1 p0.2.2,PF (Value.agg #[vS p0.1,v0,v1]),Sl bD v2 p1.1,S2 aV v3 z4 p1.2,S2 bD v5 z6 p2] (fun x:Unit=>vB (r)) (fun x l=>l) (fun _ l=>l):=by
 refine aT.of Tryz.func55 rfl Tryz.ntmps55 rfl fun c=>?_
 refine sqR<|aF (aJ.box (cs:=[vS (p0.1),v0,v1]) rfl rfl) rfl fun b1=>aF (aJ.box (cs:=[v2,v3]) rfl rfl) rfl fun b2=>qkAsg rfl<|dtN<|sqR<|qkLdA 1 rfl<|qkLdA 0 rfl<|qkMove rfl<|bnE h fun r3 w4 h=>aF (aJ.callQ QZ (AZ U v0 v1 v2 v3 z4 v5 z6 r3 w4) rfl (oI [0,1,2,3,4,5] rfl)) rfl fun x5=>qkEql rfl<|qkAsg rfl<|dtN<|aP ?_
 cases h
 exact tV rfl
end
section
def vO (U:Nat) (p0:rO) (p1:cM) (p2:aX) (a16:eF×Int×aX):Option (Int):=
 Option.bind (cE U ((((p0.1,p0.2.1,p0.2.2)),((((p0.1,p0.2.1,p0.2.2)),((p1.1,p1.2)),a16.2.1,a16.2.2)),a16.1)) p2) fun r18=>(some (r18))
def sC (U:Nat) (p0:rO) (p1:cM) (p2:aX) (a28:Int×aX):Option (Int):=
 Option.bind (gT U ((p0.1,p0.2.1,p0.2.2)) ((p1.1,p1.2))) fun r30=>(vO U p0 p1 p2 (r30,a28.1,a28.2))
def oP (U:Nat) (p0:rO) (p1:cM) (p2:aX) (a44:Int×aX):Option (Int):=
 sC U p0 p1 p2 (a44.1,a44.2)
def sD (p1:cM) (a51:Int×Int×aX) (ag50:(Int×Int×aX)->Option (Int)) (a57:aX):Option (Int):=
 ag50 ((wI .i64 (a51.1+(1:Int))),(max a51.2.1 (at' p1.1 a51.1)),a57)
def lO (U:Nat) (p1:cM) (a51:Int×Int×aX) (ag50:(Int×Int×aX)->Option (Int)) (a65:Int×aX) (ag64:(Int×aX)->Option (Int)):Option (Int):=
 if a65.1<(List.length (at' p1.2 a51.1):Int)then(ck (0<=a65.1∧a65.1<(List.length (at' p1.2 a51.1):Int)) (ck (0<=a51.1∧a51.1<(List.length a65.2:Int)) (Option.bind (kX U ((p1.1,p1.2)) ((at' (at' p1.2 a51.1) a65.1).1) a51.1) fun r74=>(ck ((List.length (at' a65.2 a51.1):Int)+(List.length ([r74]):Int)<=1099511627) (ck (0<=a51.1∧a51.1<(List.length (List.set a65.2 (Int.toNat a51.1) ((at' a65.2 a51.1)++[r74])):Int)) (ag64 ((wI .i64 (a65.1+(1:Int))),(List.set a65.2 (Int.toNat a51.1) ((at' a65.2 a51.1)++[r74])))))))))else(sD p1 a51 ag50 (a65.2))
def iA (U:Nat) (p0:rO) (p1:cM) (p2:aX) (a51:Int×Int×aX) (ag50:(Int×Int×aX)->Option (Int)):Option (Int):=
 if a51.1<(List.length p1.2:Int)then(ck (0<=a51.1∧a51.1<(List.length p1.2:Int)) (ck (0<=a51.1∧a51.1<(List.length p1.1:Int)) (bE (lO U p1 a51 ag50) U ((0:Int),a51.2.2))))else(oP U p0 p1 p2 (a51.2.1,a51.2.2))
def pW (U:Nat) (p0:rO) (p1:cM) (p2:aX):Option (Int):=
 Option.bind (pV U ((p0.1,p0.2.1,p0.2.2)) ((p1.1,p1.2)) p2) fun r3=>(if(!r3)=true then(some (0:Int))else(ck (0<=(List.length p1.2:Int)∧(List.length p1.2:Int)<=1099511627) (bE (iA U p0 p1 p2) U ((0:Int),(0:Int),(List.replicate (Int.toNat (List.length p1.2:Int)) ([]:aL))))))
theorem WU:aO Tryz.prog 37:=Tryz.call37
theorem GY (U:Nat) {p0:rO} {p1:cM} {p2:aX} (v0:Value)  (v1:Value)  (v2:Value)  (v3:Value)  (z4:mB)  (v5:Value)  (z6:pJ) (r:Int) (h:pW U p0 p1 p2=some r):
  aT Tryz.prog 37 #[Value.agg #[vS (p0.1),v0,v1],Value.agg #[v2,v3],v5] [Sl aG v0 p0.2.1,Sl aE v1 p0.2.2,PF (Value.agg #[vS p0.1,v0,v1]),Sl bD v2 p1.1,S2 aV v3 z4 p1.2,S2 bD v5 z6 p2] (fun x:Unit=>vU (r)) (fun x l=>l) (fun _ l=>l):=by
 refine aT.of Tryz.func37 rfl Tryz.ntmps37 rfl fun c=>?_
 refine sqR<|aF (aJ.box (cs:=[vS (p0.1),v0,v1]) rfl rfl) rfl fun b1=>aF (aJ.box (cs:=[v2,v3]) rfl rfl) rfl fun b2=>qkAsg rfl<|dtN<|aI<|sqR<|qkLdA 1 rfl<|qkLdA 0 rfl<|qkMove rfl<|bnE h fun r3 w4 h=>aF (aJ.callQ WZ (GU U v0 v1 v2 v3 z4 v5 z6 r3 w4) rfl (oI [0,1,2,3,4,5] rfl)) rfl fun x5=>aB (qL rfl) rfl<|dtN ?_
 refine As h rfl (fun _ h=>?_) fun _ h=>?_
 ·refine sqR<|qkAsg rfl<|dtN<|aP<|aH ?_
  cases h
  exact tV rfl
 refine cI<|sqR<|qkLdA 1 rfl<|qkLdA 0 rfl<|xS (A:=eF×Int×aX) (B:=Nat×Nat×Value×List Value×Value×List Value) (vs:=[Value.agg #[vS (p0.1),v0,v1],Value.agg #[v2,v3]]) (fun a16=>vO U p0 p1 p2 a16=some r) (fun a16 b17=>vP b17.1) (fun a16 b17=>[bM b17.1 [vS (p0.1),v0,v1,vP b17.2.1,b17.2.2.1] 140,Ar cZ.raw b17.2.2.1 b17.2.2.2.1,jK bS b17.2.2.2.1 a16.1,bM b17.2.1 [vS (p0.1),v0,v1,v2,v3,vI (a16.2.1),b17.2.2.2.2.1] 178,Ar cZ.raw b17.2.2.2.2.1 b17.2.2.2.2.2,jK bU b17.2.2.2.2.2 a16.2.2]) (fun a16 b17=>[Sl aG v0 p0.2.1,Sl aE v1 p0.2.2,PF (Value.agg #[vS p0.1,v0,v1]),Sl bD v2 p1.1,S2 aV v3 z4 p1.2,S2 bD v5 z6 p2]) (sL.fn (show aO Tryz.prog 56 from Tryz.call56) rfl) Tryz.func56 rfl Tryz.ntmps56 rfl rfl ?_ ?_
 ·refine sqR<|aF (aJ.box (cs:=[vS (p0.1),v0,v1]) rfl rfl) rfl fun b21=>aF (aJ.box (cs:=[v2,v3]) rfl rfl) rfl fun b22=>qkAsg rfl<|dtN<|aI ?_
  refine JR.start [0,0,0,6,0,0,62,127,255,511] 7 mixedOrders (by decide +kernel) ?_
  refine JR.open (by exact rfl) ?_
  refine jkLdA 1 rfl<|jkLdA 1 rfl<|jkLdA 0 rfl<|IC (A:=Int×aX) (B:=Nat×Value×List Value) (vs:=[Value.agg #[vS (p0.1),v0,v1],Value.agg #[v2,v3]]) (fun a28=>sC U p0 p1 p2 a28=some r) (fun a28 b29=>vP b29.1) (fun a28 b29=>[bM b29.1 [vS (p0.1),v0,v1,v2,v3,vI (a28.1),b29.2.1] 178,Ar cZ.raw b29.2.1 b29.2.2,jK bU b29.2.2 a28.2,bM b22 [v2,v3] 28,bM b21 [vS (p0.1),v0,v1] 33]) (fun a28 b29=>[Sl aG v0 p0.2.1,Sl aE v1 p0.2.2,PF (Value.agg #[vS p0.1,v0,v1]),Sl bD v2 p1.1,S2 aV v3 z4 p1.2,S2 bD v5 z6 p2]) rfl rfl rfl (sL.fn (show aO Tryz.prog 84 from Tryz.call84) rfl) Tryz.func84 rfl Tryz.ntmps84 rfl rfl (fun _ _=>(rA [([4],[])] rfl)) ?_ ?_
  ·refine sqR<|aF (aJ.box (cs:=[vS (p0.1),v0,v1]) rfl rfl) rfl fun b35=>aF (aJ.box (cs:=[v2,v3]) rfl rfl) rfl fun b36=>qkAsg rfl<|dtN<|aI ?_
   refine JR.start [0,0,0,4,12,28,63,127,255] 6 mixedOrders (by decide +kernel) ?_
   refine JR.open (by exact rfl) ?_
   refine jkLdA 1 rfl<|jkLdA 0 rfl<|jkFld rfl<|jkLd 0 rfl<|bG rfl .nil (mJ 4 rfl) (iM rfl (aC.fact 0 rfl) rfl) aK.z<|ckE h fun j37 h=>JR.stp (sN bU (Int.toNat (List.length p1.2:Int)))<|JR.loud rfl rfl rfl (nT (e:=cZ.raw) (kK) rfl rfl rfl rfl j37 rfl rfl rfl) rfl (fun u38=>(rA [([2],[]),([3],[])] rfl)) fun u38=>bO 6 rfl rfl<|bQ (Know.one (aC.sl (bF (i:=0) (j:=1) rfl rfl cP))) fun ho39=>?_
   refine aB (IG (r:=Value.agg #[vS (p0.1),v0,v1,v2,v3,vI (0:Int),u38]) rfl rfl rfl (by intro w;simp[Instr.build,Instr.fill,dA,cN,cF,dB,dC,cO,d_,gK ho39])) rfl ?_
   refine aF (aJ.box (cs:=[vS (p0.1),v0,v1,v2,v3,vI (0:Int),u38]) rfl rfl) rfl fun b40=>qkAsg rfl<|dtN<|aI<|midL (B:=fJ) (fun a44=>oP U p0 p1 p2 a44=some r) (fun a44 b45=>[(5,vP b40)]) (fun a44 b45=>[bM b40 [vS (p0.1),v0,v1,v2,v3,vI (a44.1),u38] 178,Ar cZ.raw u38 b45,jK bU b45 a44.2,bM b22 [v2,v3] 28,bM b21 [vS (p0.1),v0,v1] 33]) ?_ ?_
   ·refine sqR<|qkFld rfl<|qkLd 3 rfl<|aB (iM rfl (aC.fact 4 rfl) rfl) rfl<|qkMove rfl<|dtN<|aN<|loopL (B:=fJ) (iA U p0 p1 p2) (fun a51 b52=>[(3,vP b36),(5,vP b40),(19,v3),(20,vI (List.length p1.2:Int)),(21,vI (a51.1))]) (fun a51 b52=>[bM b40 [vS (p0.1),v0,v1,v2,v3,vI (a51.2.1),u38] 178,Ar cZ.raw u38 b52,jK bU b52 a51.2.2,bM b36 [v2,v3] 28,bM b22 [v2,v3] 28,bM b21 [vS (p0.1),v0,v1] 33]) ((0:Int),(0:Int),(List.replicate (Int.toNat (List.length p1.2:Int)) ([]:aL))) (List.replicate (Int.toNat (List.length p1.2:Int)) (kK)) h SF (aQ.ix [0,1,2,3,5,6] rfl rfl) ?_
    intro k53 a51 b52 h
    refine sqR<|qkLss rfl<|dtN<|aI ?_
    refine eB h rfl (fun h=>?_) fun h=>?_
    ·refine cI<|aI<|midL (B:=fJ) (fun a57=>sD p1 a51 (bE (iA U p0 p1 p2) k53) a57=some r) (fun a57 b58=>[(3,vP b36),(5,vP b40),(19,v3),(20,vI (List.length p1.2:Int)),(21,vI (a51.1))]) (fun a57 b58=>[bM b40 [vS (p0.1),v0,v1,v2,v3,vI (max a51.2.1 (at' p1.1 a51.1)),u38] 178,Ar cZ.raw u38 b58,jK bU b58 a57,bM b36 [v2,v3] 28,bM b22 [v2,v3] 28,bM b21 [vS (p0.1),v0,v1] 33]) ?_ ?_
     ·refine aN<|sqR<|qkMove rfl<|ckE h fun j59 h=>aB (cK rfl rfl (aC.fact 4 rfl) rfl rfl j59) rfl<|aB (cJ rfl (aC.fact 4 rfl) rfl rfl j59) rfl<|qkAsg rfl<|qkAsg rfl<|dtN<|aI ?_
      refine JR.start [0,0,2,6,14,0,32,0,224,480,1022,2047,4095,8191] 11 mixedOrders (by decide +kernel) ?_
      refine JR.open (by exact rfl) ?_
      refine jkMove rfl<|jkMove rfl<|jqN rfl (bN rfl)<|jkFld rfl<|jkLd 0 rfl<|jkFld rfl<|jkLd 3 rfl<|jkMove rfl<|ckE h fun j60 h=>bG rfl .nil (mJ 3 rfl) (aY rfl rfl (aC.fact 0 rfl) rfl rfl j60) aK.z<|bG rfl .nil (mJ 3 rfl) (bT rfl (aC.fact 0 rfl) rfl rfl rfl dO j60) aK.z<|jqN rfl (HE rfl rfl)<|bO 11 rfl rfl<|aB (bN rfl) rfl<|qkFld rfl<|eK 0 rfl rfl rfl rfl rfl rfl<|dtN<|sqR<|qkMove rfl<|aB (fR rfl (aC.el (aC.fact 4 rfl) j59.1 j59.2) rfl) rfl<|qkMove rfl<|dtN<|aN<|loopL (B:=fJ) (lO U p1 a51 (bE (iA U p0 p1 p2) k53)) (fun a65 b66=>[(3,vP b36),(5,vP b40),(6,vI (a51.1)),(19,v3),(20,vI (List.length p1.2:Int)),(21,vI (a51.1)),(39,(at' z4 a51.1).1),(40,vI (List.length (at' p1.2 a51.1):Int)),(41,vI (a65.1))]) (fun a65 b66=>[bM b40 [vS (p0.1),v0,v1,v2,v3,vI (max a51.2.1 (at' p1.1 a51.1)),u38] 178,Ar cZ.raw u38 b66,jK bU b66 a65.2,bM b36 [v2,v3] 28,bM b22 [v2,v3] 28,bM b21 [vS (p0.1),v0,v1] 33]) ((0:Int),a51.2.2) (b52) h SF (aQ.refl _) ?_
      intro k67 a65 b66 h
      refine sqR<|qkLss rfl<|dtN<|aI ?_
      refine eB h rfl (fun h=>?_) fun h=>?_
      ·refine cI<|aI<|aN<|sqR<|ckE h fun j69 h=>aB (aY rfl rfl (aC.el (aC.fact 4 rfl) j59.1 j59.2) rfl rfl j69) rfl<|aB (fL (cs:=[vI ((at' (at' p1.2 a51.1) a65.1).1),vI ((at' (at' p1.2 a51.1) a65.1).2)]) rfl (aC.el (aC.fact 4 rfl) j59.1 j59.2) bJ rfl rfl rfl rfl j69) rfl<|aF (aJ.alloc (cs:=LN) rfl rfl) rfl fun b70=>bH 0 (vs:=[vI ((at' (at' p1.2 a51.1) a65.1).1),vI ((at' (at' p1.2 a51.1) a65.1).2)]) rfl rfl rfl rfl rfl rfl<|dtN ?_
       refine JR.start [0,1,3,7,0,0,32,96,224,0,992,2016,0,0,8192,0,61440,126976,262112,524287,1048575] 19 mixedOrders (by decide +kernel) ?_
       refine JR.open (by exact rfl) ?_
       refine jkMove rfl<|jqN rfl (bN rfl)<|jkFld rfl<|jkLd 1 rfl<|jkMove rfl<|jkMove rfl<|jqN rfl (bN rfl)<|jkFld rfl<|jkLd 1 rfl<|jkMove rfl<|ckE h fun j71 h=>bZ (bW 3 rfl) fun hl72=>?_
       refine bG rfl (aQ.cons 2 rfl .nil) .nil (fH 0 rfl rfl rfl rfl rfl j71.1 (by have q1:=j71.2;have q2:=hl72;(try simp only[List.length_set]at q1);(try simp only[List.length_set]at q2);(try simp only[List.length_set]);omega)) aK.z ?_
       refine bZ (bW 3 rfl) fun hl73=>bG rfl (aQ.cons 2 rfl .nil) .nil (jO 0 rfl rfl hl73 rfl rfl j71) aK.z<|jkLdA 4 rfl<|jkFld rfl<|jkLd 0 rfl<|jkMove rfl<|bnE h fun r74 w75 h=>JR.loud rfl rfl rfl (aJ.callQ Nu (AY U v2 v3 z4 r74 w75) rfl (oI [3,4] rfl)) rfl (fun x76=>(rA [([2],[]),([2],[]),([1],[]),([1],[])] rfl)) fun x76=>JR.loud rfl rfl rfl (bX (e:=bU) ([r74]) [(0,vI (r74))] rfl rfl rfl rfl (lX (vI (r74)) rfl) rfl rfl rfl) rfl (fun u77=>(rA [([3],[]),([3],[]),([2],[]),([2],[])] rfl)) fun u77=>ckE h fun j79 h=>JR.loud rfl rfl rfl (lK 4 cP rfl rfl rfl (aU (aC.res 0 rfl) cP) rfl rfl rfl rfl j71 j79 rfl) rfl (fun u78=>(rA [([2],[])] rfl)) fun u78=>bO 19 rfl rfl<|ckE h fun j80 h=>bQ (bW 4 rfl) fun hl81=>?_
       refine aB (fH 3 rfl rfl rfl rfl rfl j80.1 (by have q1:=j80.2;have q2:=hl81;(try simp only[List.length_set]at q1);(try simp only[List.length_set]at q2);(try simp only[List.length_set]);omega)) rfl ?_
       refine bQ (uV 4 (k:=a51.1) rfl ⟨j80.1,by first|exact j80.2|simpa using j80.2⟩) fun ho82=>?_
       refine mD 3 4 ⟨j80.1,by first|exact j80.2|simpa using j80.2⟩ rfl rfl rfl rfl rfl (by simp) ho82 rfl ?_
       refine dY<|inT<|aM<|qkAdd rfl<|qkMove rfl<|dtN ?_
       exact lS ((wI .i64 (a65.1+(1:Int))),(List.set a65.2 (Int.toNat a51.1) ((at' a65.2 a51.1)++[r74]))) (List.set b66 (Int.toNat a51.1) u78) h SF (aQ.ix [2,3,4,5,6,7] rfl rfl) (aD.refl _ _)
      refine oY<|dH<|dH<|tS<|inT ?_
      exact jV (a65.2) (b66) h SF rfl
     intro a57 b58 h
     unfold sD at h
     refine aM<|qkAdd rfl<|qkMove rfl<|dtN ?_
     exact yF ((wI .i64 (a51.1+(1:Int))),(max a51.2.1 (at' p1.1 a51.1)),a57) (b58) h SF rfl
    refine Go.Sx.vT ?_
    exact bY (a51.2.1,a51.2.2) (b52) h SF (aQ.ix [0,1,2,4,5] rfl rfl) (aD.refl _ _)
   intro a44 b45 h
   unfold oP at h
   refine sqR<|qkMove rfl<|qkAsg rfl<|dtN<|aP ?_
   exact sW (a44.1,a44.2) (b40,u38,b45) h (.inl rfl) (CK.r1 rfl (RV.tmp rfl)) rfl (aQ.refl _) (aD.refl _ _)
  intro a28 b29 h
  unfold sC at h
  refine bG rfl (aQ.cons 4 rfl .nil) .nil (iN 0 rfl rfl rfl rfl) (aK.h (aQ.ix [1] rfl rfl) .nil aK.z)<|bG rfl (aQ.cons 3 rfl .nil) .nil (iN 0 rfl rfl rfl rfl) (aK.h (aQ.ix [0] rfl rfl) .nil aK.z)<|bnE h fun r30 w31 h=>JR.loud rfl rfl rfl (aJ.callQ Mm (w_ U v0 v1 v2 v3 z4 r30 w31) rfl (oI [0,1,2,3,4] rfl)) rfl (fun x32=>(rA [([6],[])] rfl)) fun x32=>bO 7 rfl rfl<|bQ (Know.one (aC.sl (bF (i:=0) (j:=1) rfl rfl bJ))) fun ho33=>?_
  refine aB (IG (r:=Value.agg #[vS (p0.1),v0,v1,Value.pointer (some ⟨b29.1,0,none⟩),x32.1]) rfl rfl rfl (by intro w;simp[Instr.build,Instr.fill,dA,cN,cF,dB,dC,cO,d_,gK ho33])) rfl ?_
  refine aF (aJ.box (cs:=[vS (p0.1),v0,v1,vP b29.1,x32.1]) rfl rfl) rfl fun b34=>qkAsg rfl<|dtN<|aP ?_
  exact sW (r30,a28.1,a28.2) (b34,b29.1,x32.1,x32.2,b29.2.1,b29.2.2) h (.inl rfl) (CK.r1 rfl (RV.tmp rfl)) rfl (aQ.ix [0,1,2,3,4,5] rfl rfl) (aD.refl _ _)
 intro a16 b17 h
 refine qkMove rfl<|bnE h fun r18 w19 h=>aF (aJ.callQ Ml (nP U b17.1 v0 v1 b17.2.1 v0 v1 v2 v3 z4 b17.2.2.2.2.1 (List.zip b17.2.2.2.2.2 a16.2.2) b17.2.2.1 (List.zip b17.2.2.2.1 a16.1) v5 z6 r18 w19) rfl (aD.cons (aC.res 0 rfl) (aD.cons (aC.fact 0 rfl) (aD.cons (aC.fact 1 rfl) (aD.cons (aC.res 3 rfl) (aD.cons (aC.fact 0 rfl) (aD.cons (aC.fact 1 rfl) (aD.cons (aC.fact 3 rfl) (aD.cons (aC.fact 4 rfl) (aD.cons (bF (i:=4) (j:=5) rfl rfl cP) (aD.cons (bF (i:=1) (j:=2) rfl rfl bJ) (oI [5] rfl)))))))))))) rfl fun x20=>qkAsg rfl<|dtN<|aP ?_
 cases h
 exact tV rfl
end
section
def oJ (U:Nat) (p0:rO) (p1:cM) (p2:aX) (p3:Int):Option (Int):=
 Option.bind (pW U ((p0.1,p0.2.1,p0.2.2)) ((p1.1,p1.2)) p2) fun r3=>(some (qB .u32 r3 p3))
theorem WM:aO Tryz.prog 15:=Tryz.call15
theorem EP (U:Nat) {p0:rO} {p1:cM} {p2:aX} {p3:Int} (v0:Value)  (v1:Value)  (v2:Value)  (v3:Value)  (z4:mB)  (v5:Value)  (z6:pJ) (r:Int) (h:oJ U p0 p1 p2 p3=some r):
  aT Tryz.prog 15 #[Value.agg #[vS (p0.1),v0,v1],Value.agg #[v2,v3],v5,vU (p3)] [Sl aG v0 p0.2.1,Sl aE v1 p0.2.2,PF (Value.agg #[vS p0.1,v0,v1]),Sl bD v2 p1.1,S2 aV v3 z4 p1.2,S2 bD v5 z6 p2] (fun x:Unit=>vU (r)) (fun x l=>l) (fun _ l=>l):=by
 refine aT.of Tryz.func15 rfl Tryz.ntmps15 rfl fun c=>?_
 refine sqR<|aF (aJ.box (cs:=[vS (p0.1),v0,v1]) rfl rfl) rfl fun b1=>aF (aJ.box (cs:=[v2,v3]) rfl rfl) rfl fun b2=>qkAsg rfl<|dtN<|sqR<|qkLdA 1 rfl<|qkLdA 0 rfl<|qkMove rfl<|bnE h fun r3 w4 h=>aF (aJ.callQ WU (GY U v0 v1 v2 v3 z4 v5 z6 r3 w4) rfl (oI [0,1,2,3,4,5] rfl)) rfl fun x5=>qkMove rfl<|aB (CP rfl rfl) rfl<|qkAsg rfl<|dtN<|aP ?_
 cases h
 exact tV rfl
end
end Go.Proofs.YtigggfnchamobaaGreatDoor
end
section
namespace Go.Proofs.YtigggfnchamobaaGreatDoor
open Go Go.Sx
theorem PO {g:GR} (hV:VG g) (p:BC) (c:aX):
  bE (iA 1000 p g c) 1000 ((0:Int),(0:Int),(List.replicate (Int.toNat (List.length g.2:Int)) ([]:aL)))=oP 1000 p g c (gJ g g.2.length,xY g):=by
 have h24:=hV.n24
 have hlen:=hV.len
 let f:Nat->aL:=fun v=>(List.range (row g v).length).map (FU g v)
 let Q:Nat->aX:=fun k=>(List.range k).map f++List.replicate (g.2.length - k) []
 have hQ:∀k,k<=g.2.length->(Q k).length=g.2.length:=fun k hk=>by simp[Q];omega
 rw[show List.replicate (Int.toNat (List.length g.2:Int)) ([]:aL)=Q 0 by simp[Q]]
 refine dR (step:=iA 1000 p g c) g.2.length (fun k=>((k:Int),gJ g k,Q k)) (fun k ag hk=> ?_) (fun ag=> ?_) 1000 (by omega)
 ·have hdeg:=(hV.node k hk).deg
  have hq:k<(Q k).length:=by rw[hQ k (by omega)];exact hk
  unfold iA
  dsimp only
  rw[if_pos (by omega),cL (by omega),cL (by omega)]
  let Rw:Nat->aL:=fun j=>(List.range j).map (FU g k)
  have e0:Q k=(Q k).set k (Rw 0):=by
   have:at' (Q k) (k:Int)=Rw 0:=by
    rw[kD hq];simp[Q,Rw]
   rw[<-this]
   exact(Cn (Q k) (k:Int) (by simpa using hq) (by omega)).symm
  rw[show(Q k)=(Q k).set k (Rw 0)from e0]
  have hgen:∀A:aX,A.length=g.2.length->bE (lO 1000 g ((k:Int),gJ g k,(Q k).set k (Rw 0)) ag) 1000 ((0:Int),A.set k (Rw 0))=ag (((k+1:Nat):Int),gJ g (k+1),A.set k (f k)):=by
   intro A hA
   refine dR (step:=lO 1000 g ((k:Int),gJ g k,(Q k).set k (Rw 0)) ag) (K:=ag (((k+1:Nat):Int),gJ g (k+1),A.set k (f k))) (row g k).length (fun j=>((j:Int),A.set k (Rw j))) (fun j ag2 hj=> ?_) (fun ag2=> ?_) 1000 (by omega)
   ·obtain⟨u,hu,hue⟩:=hV.to hk hj
    have hdu:=(hV.node u hu).deg
    have a1:at' (A.set k (Rw j)) (k:Int)=Rw j:=by rw[wK _ _ _ _ (by omega),if_pos rfl]
    have hRl:(Rw j).length=j:=by simp[Rw]
    unfold lO
    dsimp only
    rw[if_pos (show(j:Int)<((row g k).length:Int) by omega),cL (show 0<=(j:Int)∧(j:Int)<((row g k).length:Int) by omega),cL (by simp only[List.length_set];omega),show at' (at' g.2 (k:Int)) (j:Int)=gR (row g k) j from rfl,hue,bB (show kX 1000 _ (u:Int) (k:Int)=_ from Ib g u (k:Int) hu (by omega)),a1,cL (by rw[hRl];simp;omega),cL (by simp only[List.length_set];omega),dU (by omega),Int.toNat_natCast,List.set_set]
    have:Rw j++[yC (row g u) (k:Int)]=Rw (j+1):=by
     simp only[Rw];rw[List.range_succ,List.map_append,List.map_singleton,FU,hue,Int.toNat_natCast]
    rw[this]
   ·unfold lO sD
    dsimp only
    rw[if_neg (show¬((row g k).length:Int)<((row g k).length:Int)from Int.lt_irrefl _),dU (by omega)]
    rfl
  have:=hgen (Q k) (hQ k (by omega))
  rw[rE f [] g.2.length k hk]at this
  exact this
 ·unfold iA
  dsimp only
  rw[if_neg (by omega)]
  simp[Q,xY,f]
theorem GL {p:BC} {g:GR} {R:List RL} (hV:VG g) (hp:zE g p.2.1) (hz:p.2.2.map wB=DX R) (hR:uH p.2.1.length R=true) {c:aX} (hc:JG g c p.2.1):pW 1000 p g c=some ((UN (bI p g) R c:Nat):Int):=by
 have h24:=hV.n24
 unfold pW
 have hm:pV 1000 p g c=some true:=by
  unfold pV
  rw[bB (show kY 1000 _ _ c=_ from Kw hV hp hc)];rfl
 rw[bB (show pV 1000 _ _ c=_ from hm),if_neg (by decide),cL (by omega),PO hV p c]
 unfold oP sC vO
 rw[bB (show gT 1000 _ _=_ from Ha hV hp)]
 dsimp only
 rw[bB (show cE 1000 (p,(p,g,gJ g g.2.length,xY g),yD g p.2.1) c=some ((UN (bI p g) R c:Nat):Int)from Ge hV hc.shape hz hR (by simp[yD]))]
theorem EK {p:BC} {g:GR} {R:List RL} (hV:VG g) (hp:zE g p.2.1) (hz:p.2.2.map wB=DX R) (hR:uH p.2.1.length R=true) {c:aX} (hc:JG g c p.2.1) {d lv:Nat} (hd:d<4294967296) (hlv:∀i,i<32->lv.testBit i = !d.testBit i):oJ 1000 p g c (d:Int)=some ((vE (bI p g) R lv c:Nat):Int):=by
 have h24:=hV.n24
 unfold oJ
 rw[bB (show pW 1000 _ _ c=_ from GL hV hp hz hR hc),FS]
 congr 2
 refine Nat.eq_of_testBit_eq fun i=> ?_
 unfold vE
 rw[DV (Rq hV R c) hd,Nat.testBit_and]
 by_cases hi:i<32
 ·rw[hlv i hi]
 ·have:(UN (bI p g) R c).testBit i=false:=by
   rw[NI]
   have:¬i<(bI p g).2.1.2.length:=fun q=>by have q:i<g.2.length:=q;omega
   rw[decide_eq_false this];rfl
  rw[this];rfl
end Go.Proofs.YtigggfnchamobaaGreatDoor
end
section
namespace Go.Proofs.YtigggfnchamobaaGreatDoor
open Go.Sx
section
def zO (U:Nat)  : Option (ByteArray):=
 some (ByteArray.mk #[112,114,111,103,114,97,109,32,98,102,115,59,10,118,97,114,32,100,32,58,32,48,32,46,46,32,110,59,10,118,97,114,32,112,32,58,32,112,111,114,116,59,10,114,117,108,101,32,116,111,112,58,32,114,111,111,116,32,38,38,32,40,100,32,33,61,32,48,32,124,124,32,112,32,33,61,32,110,111,110,101,41,32,45,62,32,100,32,58,61,32,48,44,32,112,32,58,61,32,110,111,110,101,59,10,114,117,108,101,32,108,111,119,58,32,33,114,111,111,116,32,38,38,32,40,100,32,33,61,32,40,109,105,110,40,113,46,100,41,32,60,32,110,32,63,32,109,105,110,40,113,46,100,41,32,43,32,49,32,58,32,110,41,32,124,124,32,112,32,33,61,32,102,105,114,115,116,40,113,46,100,32,61,61,32,109,105,110,40,113,46,100,41,41,41,10,32,32,45,62,32,100,32,58,61,32,40,109,105,110,40,113,46,100,41,32,60,32,110,32,63,32,109,105,110,40,113,46,100,41,32,43,32,49,32,58,32,110,41,44,32,112,32,58,61,32,102,105,114,115,116,40,113,46,100,32,61,61,32,109,105,110,40,113,46,100,41,41,59,10])
theorem Y_:aO Tryz.prog 9:=Tryz.call9
theorem MZ (U:Nat)  (r:ByteArray) (h:zO U  = some r):
  aT Tryz.prog 9 #[] [] (fun x:Unit=>vS (r)) (fun x l=>l) (fun _ l=>l):=by
 refine aT.of Tryz.func9 rfl Tryz.ntmps9 rfl fun c=>?_
 unfold zO at h
 refine sqR<|qkAsg rfl<|dtN<|sqR<|qkAsg rfl<|dtN<|aP ?_
 cases h
 exact lI rfl
end
section
def tF (U:Nat) (p0:rO) (p1:cM) (p2:Int) (p3:aX) (p4:Int) (p5:aL):Option yX:=
 Option.bind (kZ U ((p0.1,p0.2.1,p0.2.2)) ((p1.1,p1.2)) p2 p3 (Ue .u32 (4294967295:Int) p4) p5) fun r4=>(some (((r4.1.1,r4.1.2.1,r4.1.2.2.1,((r4.1.2.2.2.1,r4.1.2.2.2.2.1,r4.1.2.2.2.2.2.1,r4.1.2.2.2.2.2.2.1,r4.1.2.2.2.2.2.2.2)))),r4.2))
theorem Mj:aO Tryz.prog 13:=Tryz.call13
theorem wZ (U:Nat) {p0:rO} {p1:cM} {p2:Int} {p3:aX} {p4:Int} {p5:aL} (v0:Value)  (v1:Value)  (v2:Value)  (v3:Value)  (z4:mB)  (v5:Value)  (z6:pJ)  (v7:Value) (r:(aL×aL×aX×(Int×Int×Int×Int×Int))×Int) (h:tF U p0 p1 p2 p3 p4 p5=some r):
  aT Tryz.prog 13 #[Value.agg #[vS (p0.1),v0,v1],Value.agg #[v2,v3],vI (p2),v5,vU (p4),v7] [Sl aG v0 p0.2.1,Sl aE v1 p0.2.2,PF (Value.agg #[vS p0.1,v0,v1]),Sl bD v2 p1.1,S2 aV v3 z4 p1.2,S2 bD v5 z6 p3,Sl yK v7 p5,Gb 0 (cellsOf CB rK)] (fun x:Ov=>Value.tuple #[Value.agg #[x.1,x.2.1,x.2.2.1,vI (r.1.2.2.2.1),vI (r.1.2.2.2.2.1),vI (r.1.2.2.2.2.2.1),vI (r.1.2.2.2.2.2.2.1),vU (r.1.2.2.2.2.2.2.2)],vI (r.2)]) (fun x l=>Ar jL x.1 r.1.1::Ar jL x.2.1 r.1.2.1::Ar cZ.raw x.2.2.1 x.2.2.2::jK bU x.2.2.2 r.1.2.2.1::l) (fun _ l=>l):=by
 refine aT.of Tryz.func13 rfl Tryz.ntmps13 rfl fun c=>?_
 refine sqR<|aF (aJ.box (cs:=[vS (p0.1),v0,v1]) rfl rfl) rfl fun b1=>aF (aJ.box (cs:=[v2,v3]) rfl rfl) rfl fun b2=>aF (aJ.alloc (cs:=Cu) rfl rfl) rfl fun b3=>qkAsg rfl<|dtN<|sqR<|qkLdA 2 rfl<|qkLdA 1 rfl<|qkMove rfl<|qkMove rfl<|qkMove rfl<|aB (TS rfl rfl) rfl<|qkMove rfl<|bnE h fun r4 w5 h=>aF (aJ.callQ WS (Cq U v0 v1 v2 v3 z4 v5 z6 v7 r4 w5) rfl (oI [0,1,2,3,4,5,6,7] rfl)) rfl fun x6=>qkExt rfl<|qkExt rfl<|bQ (Know.one ((aU (aC.res 0 rfl) nQ))) fun ho7=>bQ (Know.one ((aU (aC.res 1 rfl) nQ))) fun ho8=>bQ (Know.one (aC.sl (bF (i:=2) (j:=3) rfl rfl cP))) fun ho9=>bH 4 (vs:=[x6.1,x6.2.1,x6.2.2.1,vI (r4.1.2.2.2.1),vI (r4.1.2.2.2.2.1),vI (r4.1.2.2.2.2.2.1),vI (r4.1.2.2.2.2.2.2.1),vU (r4.1.2.2.2.2.2.2.2)]) rfl rfl (dK ho7 (dK ho8 (dK ho9 (dK rfl (dK rfl (dK rfl (dK rfl (dK rfl rfl)))))))) rfl rfl rfl<|qkAsg rfl<|dtN<|aP ?_
 cases h
 exact iZ (x6.1,x6.2.1,x6.2.2.1,x6.2.2.2) rfl rfl (RV.cell 4 rfl rfl rfl rfl) (RV.tmp rfl) (aQ.ix [0,1,2,3] rfl rfl) aD.nil
end
end Go.Proofs.YtigggfnchamobaaGreatDoor
end
section
namespace Go.Proofs.YtigggfnchamobaaGreatDoor
open Go Go.Sx Go.Gx
set_option maxRecDepth 100000
def yA (fuel:Nat):Option (Bool):=some (true)
theorem QU:aO Tryz.prog 16:=Tryz.call16
theorem Rh:okT (FY GE gp2 4000 16 [] H0)=true:=by kernel_rfl
theorem Ht (fuel:Nat) (r:Bool) (h:yA fuel=some r):
  aT Tryz.prog 16 #[] [Gb 0 (cellsOf CB rK)] (fun x:Unit=>Value.bool (r)) (fun x l=>l) (fun _ l=>l):=by
 obtain rfl:=Option.some.inj h
 obtain⟨H',h1⟩:=SC Rh
 rw[CU Fw]at h1
 exact Jj RP QU (fun ρ V' h=>h.bool_inv) fun T b=>CS (gs:=gl T) abG h1 (dZ.start b rfl) .nil
end Go.Proofs.YtigggfnchamobaaGreatDoor
end
section
namespace Go.Proofs.YtigggfnchamobaaGreatDoor
open Go.Sx
noncomputable def gC  (a51:Bool):Option (Bool):=
 some (a51)
noncomputable def nL (U:Nat) (r2:BY) (a42:Ik) (a48:Unit):Option (Bool):=
 Option.bind (yA U) fun r53=>(if r53=true then(gC  (decide (a42.2.2.2.2.1<=(wI .i64 ((List.length r2.2:Int)+(1:Int))))))else(gC  (false)))
noncomputable def jR (a59:Int) (ag58:(Int)->Option (Bool)) (a64:Bool):Option (Bool):=
 if a64=true then(some (false))else(ag58 (wI .i64 (a59+(1:Int))))
noncomputable def eR (U:Nat) (r2:BY) (r25:aL) (a42:Ik) (a59:Int) (ag58:(Int)->Option (Bool)):Option (Bool):=
 if a59<(List.length r2.2:Int)then(ck (0<=a59∧a59<(List.length a42.2.2.2.2.2.2.2.2:Int)) (if(List.length (at' a42.2.2.2.2.2.2.2.2 a59):Int)≠(2:Int)then(jR a59 ag58 (true))else(ck (0<=a59∧a59<(List.length a42.2.2.2.2.2.2.2.2:Int)) (ck (0<=(0:Int)∧(0:Int)<(List.length (at' a42.2.2.2.2.2.2.2.2 a59):Int)) (ck (0<=a59∧a59<(List.length r25:Int)) (jR a59 ag58 (decide ((at' (at' a42.2.2.2.2.2.2.2.2 a59) (0:Int))≠(at' r25 a59)))))))))else(nL U r2 a42 (()))
noncomputable def eQ (U:Nat) (r2:BY) (r25:aL) (a42:Ik) (a45:Bool):Option (Bool):=
 if a45=true then(some (false))else(bE (eR U r2 r25 a42) U (0:Int))
noncomputable def nK (U:Nat) (p2:Int) (r2:BY) (r11:ByteArray×List (ByteArray×Int×Int×Int×Int×Int)×List (eD×List (Int×eD))) (z14:List uW) (r25:aL) (a42:Ik):Option (Bool):=
 if a42.1≠(0:Int)then(eQ U r2 r25 a42 (true))else(if(List.length r25:Int)≠(List.length r2.2:Int)then(eQ U r2 r25 a42 (true))else(if(List.length a42.2.2.2.2.2.2.2.2:Int)≠(List.length r2.2:Int)then(eQ U r2 r25 a42 (true))else(Option.bind (oJ U ((r11.1,r11.2.1,z14)) ((r2.1,r2.2)) a42.2.2.2.2.2.2.2.2 p2) fun r80=>(eQ U r2 r25 a42 (decide (r80≠(0:Int)))))))
noncomputable def oB (U:Nat) (p0:Aw) (p1:aL) (p2:Int):Option (Bool):=
 Option.bind (gF U ((p0.1,p0.2.1,p0.2.2.1,p0.2.2.2.1,p0.2.2.2.2.1,p0.2.2.2.2.2)) (8:Int)) fun r2=>(Option.bind (zO U) fun r8=>(Option.bind (oM U r8) fun r11=>QN r11.2.2 fun z14=>(Option.bind (zP U) fun r19=>(Option.bind (lA U ((r2.1,r2.2)) r19 p1) fun r22=>(Option.bind (jS U ((r2.1,r2.2)) r22 p2) fun r25=>(Option.bind (pX U ([]:aL) (wI .i64 ((List.length r2.2:Int)+(1:Int)))) fun r83=>(Option.bind (tF U ((r11.1,r11.2.1,z14)) ((r2.1,r2.2)) (4:Int) r22 p2 r83) fun r86=>(nK U p2 r2 r11 z14 r25 (r86.2,r86.1.2.2.2.1,r86.1.2.2.2.2.1,r86.1.2.2.2.2.2.1,r86.1.2.2.2.2.2.2.1,r86.1.2.2.2.2.2.2.2,r86.1.1,r86.1.2.1,r86.1.2.2.1)))))))))
theorem z_ (U:Nat) {p0:Aw} {p1:aL} {p2:Int} (v0:Value)  (v1:Value)  (v2:Value)  (v3:Value) (r:Bool) (h:oB U p0 p1 p2=some r):
  aT Tryz.prog 3 #[Value.agg #[vI (p0.1),v0,v1,v2,vB (p0.2.2.2.2.1),vB (p0.2.2.2.2.2)],v3,vU (p2)] [Sl bD v0 p0.2.1,Sl bD v1 p0.2.2.1,Sl bD v2 p0.2.2.2.1,Sl bD v3 p1,Gb 0 (cellsOf CB rK)] (fun x:Unit=>vB (r)) (fun x l=>l) (fun _ l=>l):=by
 refine aT.of Tryz.func3 rfl Tryz.ntmps3 rfl fun c=>?_
 refine sqR<|aF (aJ.box (cs:=[vI (p0.1),v0,v1,v2,vB (p0.2.2.2.2.1),vB (p0.2.2.2.2.2)]) rfl rfl) rfl fun b1=>qkAsg rfl<|dtN<|sqR<|qkLdA 0 rfl<|bnE h fun r2 w3 h=>aF (aJ.callQ YZ (yW U v0 v1 v2 r2 w3) rfl (oI [0,1,2] rfl)) rfl fun x4=>aF (aJ.alloc (cs:=[kK,kK]) rfl rfl) rfl fun b5=>bQ (Know.one ((aU (aC.res 1 rfl) cP))) fun ho6=>bQ (Know.one (aC.sl (bF (i:=2) (j:=3) rfl rfl bJ))) fun ho7=>bH 0 (vs:=[x4.1,x4.2.1]) rfl rfl (dK ho6 (dK ho7 rfl)) rfl rfl rfl<|dtN<|sqR<|qkFld rfl<|qkLd 0 rfl<|aB (iM rfl (bF (i:=2) (j:=3) rfl rfl bJ) rfl) rfl<|qkAsg rfl<|dtN<|sqR<|bnE h fun r8 w9 h=>aF (aJ.callQ Y_ (MZ U  r8 w9) rfl .nil) rfl fun x10=>bnE h fun r11 w12 h=>aF (aJ.call Wa (EV U r11 w12) rfl (mJ 4 rfl) (fun _ _=>rfl) (fun _ _=>rfl)) rfl fun⟨x13a,x13b,z14,hz15⟩=>?_
 have h:=OW h z14 hz15
 refine aF (aJ.alloc (cs:=[vS (ByteArray.mk #[]),kK,kK]) rfl rfl) rfl fun b16=>bQ (Know.one ((aC.fact 0 rfl))) fun ho17=>bQ (Know.one ((aC.fact 1 rfl))) fun ho18=>bH 0 (vs:=[vS (r11.1),x13a,x13b]) rfl rfl (dK rfl (dK ho17 (dK ho18 rfl))) rfl rfl rfl<|dtN<|aI ?_
 refine JR.start [0,0,0,7,15] 3 mixedOrders (by decide +kernel) ?_
 refine JR.open (by exact rfl) ?_
 refine jkLdA 1 rfl<|bnE h fun r19 w20 h=>JR.loud rfl rfl rfl (aJ.callQ WL (Jz U  r19 w20) rfl .nil) rfl (fun x21=>(rA [([2],[])] rfl)) fun x21=>jqN rfl (kM rfl)<|bO 3 rfl rfl<|bnE h fun r22 w23 h=>aF (aJ.callQ WK (GZ U x4.1 x4.2.1 (List.zip x4.2.2 r2.2) x21 v3 r22 w23) rfl (aD.cons (aU (aC.res 3 rfl) cP) (aD.cons (bF (i:=4) (j:=5) rfl rfl bJ) (aD.cons (aU (aC.res 0 rfl) qQ) (oI [6] rfl))))) rfl fun x24=>qkAsg rfl<|dtN<|sqR<|qkLdA 4 rfl<|qkMove rfl<|qkMove rfl<|bnE h fun r25 w26 h=>aF (aJ.callQ QT (xQ U x4.1 x4.2.1 (List.zip x4.2.2 r2.2) x24.1 (List.zip x24.2 r22) r25 w26) rfl (aD.cons (aU (aC.res 5 rfl) cP) (aD.cons (bF (i:=6) (j:=7) rfl rfl bJ) (aD.cons (bF (i:=0) (j:=1) rfl rfl cP) .nil)))) rfl fun x27=>qkAsg rfl<|dtN<|aI<|vF (B:=Nat×Value×Value×Value×List Value) (fun a42=>nK U p2 r2 r11 z14 r25 a42=some r) (fun a42 b43=>[(2,vU (p2)),(7,vP b5),(8,vI (List.length r2.2:Int)),(9,vP b16),(11,x27),(12,vP b43.1),(13,vI (a42.1))]) (fun a42 b43=>[bM b43.1 [b43.2.1,b43.2.2.1,b43.2.2.2.1,vI (a42.2.1),vI (a42.2.2.1),vI (a42.2.2.2.1),vI (a42.2.2.2.2.1),vU (a42.2.2.2.2.2.1)] 44,Ar jL b43.2.1 a42.2.2.2.2.2.2.1,Ar jL b43.2.2.1 a42.2.2.2.2.2.2.2.1,Ar cZ.raw b43.2.2.2.1 b43.2.2.2.2,jK bU b43.2.2.2.2 a42.2.2.2.2.2.2.2.2,Ar bU x27 r25,bM b16 [vS (r11.1),x13a,x13b] 33,bM b5 [x4.1,x4.2.1] 28,Ar bU x4.1 r2.1,Ar cZ.raw x4.2.1 x4.2.2,jK bS x4.2.2 r2.2]) (fun a42 b43=>[Sl aG x13a r11.2.1,Sl aE x13b z14,PF (Value.agg #[vS r11.1,x13a,x13b]),Sl bD v0 p0.2.1,Sl bD v1 p0.2.2.1,Sl bD v2 p0.2.2.2.1,Sl bD v3 p1,Gb 0 (cellsOf CB rK)]) ?_ ?_
 ·have⟨r83,w84,h⟩:=bnd h
  refine bnE h fun r86 w87 h=>Hy [0,0,0,0,0,16,48,127,255,511,511,0,3071,8191] 13 [[0,1,2,3,4,5,6,7,8,9,10,11,12,13],[0,1,2,3,4,5,6,11,7,8,9,10,12,13],[0,1,2,3,4,5,11,6,7,8,9,10,12,13]] mixedOrders (by decide +kernel) (by decide +kernel) ?_
  intro o ho
  simp only[List.mem_cons,List.not_mem_nil,or_false]at ho
  rcases ho with rfl|rfl|rfl
  ·refine jkLdA 4 rfl<|jkLdA 5 rfl<|jkMove rfl<|jkMove rfl<|jkMove rfl<|jqN rfl (pQ rfl rfl)<|JR.loud rfl rfl rfl (aJ.callQ Mk (xB U (kK) r83 w84) rfl (aD.cons aC.nil .nil)) rfl (fun x94=>(rA [([6],[]),([5],[])] rfl)) fun x94=>JR.loud rfl rfl rfl (aJ.callQ Mj (wZ U x13a x13b x4.1 x4.2.1 (List.zip x4.2.2 r2.2) x24.1 (List.zip x24.2 r22) x94 r86 w87) rfl (aD.cons (aC.fact 0 rfl) (aD.cons (aC.fact 1 rfl) (aD.cons (aC.fact 2 rfl) (aD.cons (aU (aC.res 7 rfl) cP) (aD.cons (bF (i:=8) (j:=9) rfl rfl bJ) (aD.cons (bF (i:=2) (j:=3) rfl rfl cP) (aD.cons (aU (aC.res 0 rfl) nQ) (oI [7] rfl))))))))) rfl (fun x95=>(rA [] rfl)) fun x95=>jqN rfl (kM rfl)<|jqN rfl (mW rfl rfl)<|jqN rfl (mW rfl rfl)<|JR.loud rfl rfl rfl (aJ.alloc (cs:=Cu) rfl rfl) rfl (fun b96=>(rA [([11],[]),([10],[])] rfl)) fun b96=>bZ (Know.one ((aU (aC.res 1 rfl) nQ))) fun ho98=>bZ (Know.one ((aU (aC.res 2 rfl) nQ))) fun ho99=>bZ (Know.one (aC.sl (bF (i:=3) (j:=4) rfl rfl cP))) fun ho100=>uU rfl rfl rfl (xU 0 (vs:=[x95.1,x95.2.1,x95.2.2.1,vI (r86.1.2.2.2.1),vI (r86.1.2.2.2.2.1),vI (r86.1.2.2.2.2.2.1),vI (r86.1.2.2.2.2.2.2.1),vU (r86.1.2.2.2.2.2.2.2)]) rfl rfl (dK ho98 (dK ho99 (dK ho100 (dK rfl (dK rfl (dK rfl (dK rfl (dK rfl rfl)))))))) rfl rfl rfl) (fun x97=>(rA [] rfl)) fun x97=>bO 13 rfl rfl<|qkAsg rfl<|dtN ?_
   exact bY (r86.2,r86.1.2.2.2.1,r86.1.2.2.2.2.1,r86.1.2.2.2.2.2.1,r86.1.2.2.2.2.2.2.1,r86.1.2.2.2.2.2.2.2,r86.1.1,r86.1.2.1,r86.1.2.2.1) (b96,x95.1,x95.2.1,x95.2.2.1,x95.2.2.2) h SF (aQ.ix [0,1,2,3,4,6,10,11,12,13,14] rfl rfl) (aD.refl _ _)
  ·refine jkLdA 4 rfl<|jkLdA 5 rfl<|jkMove rfl<|jkMove rfl<|jkMove rfl<|jqN rfl (pQ rfl rfl)<|JR.loud rfl rfl rfl (aJ.callQ Mk (xB U (kK) r83 w84) rfl (aD.cons aC.nil .nil)) rfl (fun x101=>(rA [([6],[]),([5],[])] rfl)) fun x101=>JR.loud rfl rfl rfl (aJ.alloc (cs:=Cu) rfl rfl) rfl (fun b102=>(rA [([7],[]),([6],[])] rfl)) fun b102=>JR.loud rfl rfl rfl (aJ.callQ Mj (wZ U x13a x13b x4.1 x4.2.1 (List.zip x4.2.2 r2.2) x24.1 (List.zip x24.2 r22) x101 r86 w87) rfl (aD.cons (aC.fact 0 rfl) (aD.cons (aC.fact 1 rfl) (aD.cons (aC.fact 2 rfl) (aD.cons (aU (aC.res 8 rfl) cP) (aD.cons (bF (i:=9) (j:=10) rfl rfl bJ) (aD.cons (bF (i:=3) (j:=4) rfl rfl cP) (aD.cons (aU (aC.res 1 rfl) nQ) (oI [7] rfl))))))))) rfl (fun x103=>(rA [] rfl)) fun x103=>jqN rfl (kM rfl)<|jqN rfl (mW rfl rfl)<|jqN rfl (mW rfl rfl)<|bZ (Know.one ((aU (aC.res 0 rfl) nQ))) fun ho105=>bZ (Know.one ((aU (aC.res 1 rfl) nQ))) fun ho106=>bZ (Know.one (aC.sl (bF (i:=2) (j:=3) rfl rfl cP))) fun ho107=>uU rfl rfl rfl (xU 4 (vs:=[x103.1,x103.2.1,x103.2.2.1,vI (r86.1.2.2.2.1),vI (r86.1.2.2.2.2.1),vI (r86.1.2.2.2.2.2.1),vI (r86.1.2.2.2.2.2.2.1),vU (r86.1.2.2.2.2.2.2.2)]) rfl rfl (dK ho105 (dK ho106 (dK ho107 (dK rfl (dK rfl (dK rfl (dK rfl (dK rfl rfl)))))))) rfl rfl rfl) (fun x104=>(rA [] rfl)) fun x104=>bO 13 rfl rfl<|qkAsg rfl<|dtN ?_
   exact bY (r86.2,r86.1.2.2.2.1,r86.1.2.2.2.2.1,r86.1.2.2.2.2.2.1,r86.1.2.2.2.2.2.2.1,r86.1.2.2.2.2.2.2.2,r86.1.1,r86.1.2.1,r86.1.2.2.1) (b102,x103.1,x103.2.1,x103.2.2.1,x103.2.2.2) h SF (aQ.ix [4,0,1,2,3,6,10,11,12,13,14] rfl rfl) (aD.refl _ _)
  refine jkLdA 4 rfl<|jkLdA 5 rfl<|jkMove rfl<|jkMove rfl<|jkMove rfl<|jqN rfl (pQ rfl rfl)<|JR.loud rfl rfl rfl (aJ.alloc (cs:=Cu) rfl rfl) rfl (fun b108=>(rA [([6],[]),([5],[])] rfl)) fun b108=>JR.loud rfl rfl rfl (aJ.callQ Mk (xB U (kK) r83 w84) rfl (aD.cons aC.nil .nil)) rfl (fun x109=>(rA [([7],[]),([6],[])] rfl)) fun x109=>JR.loud rfl rfl rfl (aJ.callQ Mj (wZ U x13a x13b x4.1 x4.2.1 (List.zip x4.2.2 r2.2) x24.1 (List.zip x24.2 r22) x109 r86 w87) rfl (aD.cons (aC.fact 0 rfl) (aD.cons (aC.fact 1 rfl) (aD.cons (aC.fact 2 rfl) (aD.cons (aU (aC.res 8 rfl) cP) (aD.cons (bF (i:=9) (j:=10) rfl rfl bJ) (aD.cons (bF (i:=3) (j:=4) rfl rfl cP) (aD.cons (aU (aC.res 0 rfl) nQ) (oI [7] rfl))))))))) rfl (fun x110=>(rA [] rfl)) fun x110=>jqN rfl (kM rfl)<|jqN rfl (mW rfl rfl)<|jqN rfl (mW rfl rfl)<|bZ (Know.one ((aU (aC.res 0 rfl) nQ))) fun ho112=>bZ (Know.one ((aU (aC.res 1 rfl) nQ))) fun ho113=>bZ (Know.one (aC.sl (bF (i:=2) (j:=3) rfl rfl cP))) fun ho114=>uU rfl rfl rfl (xU 5 (vs:=[x110.1,x110.2.1,x110.2.2.1,vI (r86.1.2.2.2.1),vI (r86.1.2.2.2.2.1),vI (r86.1.2.2.2.2.2.1),vI (r86.1.2.2.2.2.2.2.1),vU (r86.1.2.2.2.2.2.2.2)]) rfl rfl (dK ho112 (dK ho113 (dK ho114 (dK rfl (dK rfl (dK rfl (dK rfl (dK rfl rfl)))))))) rfl rfl rfl) (fun x111=>(rA [] rfl)) fun x111=>bO 13 rfl rfl<|qkAsg rfl<|dtN ?_
  exact bY (r86.2,r86.1.2.2.2.1,r86.1.2.2.2.2.1,r86.1.2.2.2.2.2.1,r86.1.2.2.2.2.2.2.1,r86.1.2.2.2.2.2.2.2,r86.1.1,r86.1.2.1,r86.1.2.2.1) (b108,x110.1,x110.2.1,x110.2.2.1,x110.2.2.2) h SF (aQ.ix [5,0,1,2,3,6,10,11,12,13,14] rfl rfl) (aD.refl _ _)
 intro a42 b43 h
 refine aI<|aI<|vF (B:=Unit) (fun a45=>eQ U r2 r25 a42 a45=some r) (fun a45 b46=>[(8,vI (List.length r2.2:Int)),(11,x27),(12,vP b43.1),(64,vB (a45))]) (fun a45 b46=>[bM b43.1 [b43.2.1,b43.2.2.1,b43.2.2.2.1,vI (a42.2.1),vI (a42.2.2.1),vI (a42.2.2.2.1),vI (a42.2.2.2.2.1),vU (a42.2.2.2.2.2.1)] 44,Ar jL b43.2.1 a42.2.2.2.2.2.2.1,Ar jL b43.2.2.1 a42.2.2.2.2.2.2.2.1,Ar cZ.raw b43.2.2.2.1 b43.2.2.2.2,jK bU b43.2.2.2.2 a42.2.2.2.2.2.2.2.2,Ar bU x27 r25]) (fun a45 b46=>[Sl aG x13a r11.2.1,Sl aE x13b z14,PF (Value.agg #[vS r11.1,x13a,x13b]),Sl bD v0 p0.2.1,Sl bD v1 p0.2.2.1,Sl bD v2 p0.2.2.2.1,Sl bD v3 p1,Gb 0 (cellsOf CB rK)]) ?_ ?_
 ·refine aM<|qkMove rfl<|qkNeq rfl<|qkMove rfl ?_
  refine Cv h rfl (fun _ h=>?_) fun _ h=>?_
  ·refine gdSkip rfl<|gdSkip rfl<|gdSkip rfl<|gdSkip rfl<|qkPkT rfl<|qkMove rfl<|gdSkip rfl<|gdSkip rfl<|gdSkip rfl<|gdSkip rfl<|gdSkip rfl<|qkPkT rfl<|qkMove rfl<|gdSkip rfl<|gdSkip rfl<|gdSkip rfl<|gdSkip rfl<|gdSkip rfl<|gdSkip rfl<|gdSkip rfl<|qkPkT rfl<|dtN ?_
   exact bY (true) () h SF (aQ.ix [0,1,2,3,4,5] rfl rfl) (aD.refl _ _)
  refine gyMove rfl<|aR rfl (fR rfl (aU (aC.res 5 rfl) cP) rfl) rfl<|gyMove rfl<|aR rfl (AF rfl rfl) rfl<|qkPkF rfl<|qkMove rfl ?_
  refine Cv h rfl (fun _ h=>?_) fun _ h=>?_
  ·refine gdSkip rfl<|gdSkip rfl<|gdSkip rfl<|gdSkip rfl<|gdSkip rfl<|qkPkT rfl<|qkMove rfl<|gdSkip rfl<|gdSkip rfl<|gdSkip rfl<|gdSkip rfl<|gdSkip rfl<|gdSkip rfl<|gdSkip rfl<|qkPkT rfl<|dtN ?_
   exact bY (true) () h SF (aQ.ix [0,1,2,3,4,5] rfl rfl) (aD.refl _ _)
  refine aR rfl (c_ rfl rfl rfl rfl rfl) rfl<|aR rfl (dX 0 rfl rfl rfl rfl rfl) rfl<|aR rfl (iM rfl (bF (i:=3) (j:=4) rfl rfl cP) rfl) rfl<|gyMove rfl<|aR rfl (AF rfl rfl) rfl<|qkPkF rfl<|qkMove rfl ?_
  refine Cv h rfl (fun _ h=>?_) fun _ h=>?_
  ·refine gdSkip rfl<|gdSkip rfl<|gdSkip rfl<|gdSkip rfl<|gdSkip rfl<|gdSkip rfl<|gdSkip rfl<|qkPkT rfl<|dtN ?_
   exact bY (true) () h SF (aQ.ix [0,1,2,3,4,5] rfl rfl) (aD.refl _ _)
  refine aR rfl (iN 6 rfl rfl rfl rfl) rfl<|aR rfl (iN 7 rfl rfl rfl rfl) rfl<|aR rfl (c_ rfl rfl rfl rfl rfl) rfl<|aR rfl (dX 0 rfl rfl rfl rfl rfl) rfl<|gyMove rfl<|bnE h fun r80 w81 h=>sV rfl (aJ.callQ WM (EP U x13a x13b x4.1 x4.2.1 (List.zip x4.2.2 r2.2) b43.2.2.2.1 (List.zip b43.2.2.2.2 a42.2.2.2.2.2.2.2.2) r80 w81) rfl (aD.cons (aC.fact 0 rfl) (aD.cons (aC.fact 1 rfl) (aD.cons (aC.fact 2 rfl) (aD.cons (aU (aC.res 8 rfl) cP) (aD.cons (bF (i:=9) (j:=10) rfl rfl bJ) (aD.cons (bF (i:=3) (j:=4) rfl rfl cP) .nil))))))) rfl fun x82=>aR rfl (AF rfl rfl) rfl<|qkPkF rfl<|dtN ?_
  exact bY (decide (r80≠(0:Int))) () h SF (aQ.ix [0,1,2,3,4,5] rfl rfl) (aD.refl _ _)
 intro a45 b46 h
 refine As h rfl (fun _ h=>?_) fun _ h=>?_
 ·refine sqR<|qkAsg rfl<|dtN<|aP<|aH ?_
  cases h
  exact tV rfl
 refine cI<|aI<|vF (B:=Unit) (fun a48=>nL U r2 a42 a48=some r) (fun a48 b49=>[(8,vI (List.length r2.2:Int)),(12,vP b43.1)]) (fun a48 b49=>[bM b43.1 [b43.2.1,b43.2.2.1,b43.2.2.2.1,vI (a42.2.1),vI (a42.2.2.1),vI (a42.2.2.2.1),vI (a42.2.2.2.2.1),vU (a42.2.2.2.2.2.1)] 44,Ar jL b43.2.1 a42.2.2.2.2.2.2.1,Ar jL b43.2.2.1 a42.2.2.2.2.2.2.2.1,Ar cZ.raw b43.2.2.2.1 b43.2.2.2.2,jK bU b43.2.2.2.2 a42.2.2.2.2.2.2.2.2]) (fun a48 b49=>[Sl aG x13a r11.2.1,Sl aE x13b z14,PF (Value.agg #[vS r11.1,x13a,x13b]),Sl bD v0 p0.2.1,Sl bD v1 p0.2.2.1,Sl bD v2 p0.2.2.2.1,Sl bD v3 p1,Gb 0 (cellsOf CB rK)]) ?_ ?_
 ·refine sqR<|qkAsg rfl<|dtN<|aN<|CF (B:=Unit) (eR U r2 r25 a42) (fun a59 b60=>[(8,vI (List.length r2.2:Int)),(11,x27),(12,vP b43.1),(14,vI (a59))]) (fun a59 b60=>[bM b43.1 [b43.2.1,b43.2.2.1,b43.2.2.2.1,vI (a42.2.1),vI (a42.2.2.1),vI (a42.2.2.2.1),vI (a42.2.2.2.2.1),vU (a42.2.2.2.2.2.1)] 44,Ar jL b43.2.1 a42.2.2.2.2.2.2.1,Ar jL b43.2.2.1 a42.2.2.2.2.2.2.2.1,Ar cZ.raw b43.2.2.2.1 b43.2.2.2.2,jK bU b43.2.2.2.2 a42.2.2.2.2.2.2.2.2,Ar bU x27 r25]) (fun a59 b60=>[Sl aG x13a r11.2.1,Sl aE x13b z14,PF (Value.agg #[vS r11.1,x13a,x13b]),Sl bD v0 p0.2.1,Sl bD v1 p0.2.2.1,Sl bD v2 p0.2.2.2.1,Sl bD v3 p1,Gb 0 (cellsOf CB rK)]) (0:Int) () h SF (aQ.refl _) (aD.refl _ _) ?_
  intro k61 a59 b60 h
  refine aI<|sqR<|qkMove rfl<|qkMove rfl<|qkLss rfl<|dtN ?_
  refine eB h rfl (fun h=>?_) fun h=>?_
  ·refine cI<|aI<|aN<|aI<|vF (B:=Unit) (fun a64=>jR a59 (bE (eR U r2 r25 a42) k61) a64=some r) (fun a64 b65=>[(8,vI (List.length r2.2:Int)),(11,x27),(12,vP b43.1),(14,vI (a59)),(90,vB (a64))]) (fun a64 b65=>[bM b43.1 [b43.2.1,b43.2.2.1,b43.2.2.2.1,vI (a42.2.1),vI (a42.2.2.1),vI (a42.2.2.2.1),vI (a42.2.2.2.2.1),vU (a42.2.2.2.2.2.1)] 44,Ar jL b43.2.1 a42.2.2.2.2.2.2.1,Ar jL b43.2.2.1 a42.2.2.2.2.2.2.2.1,Ar cZ.raw b43.2.2.2.1 b43.2.2.2.2,jK bU b43.2.2.2.2 a42.2.2.2.2.2.2.2.2,Ar bU x27 r25]) (fun a64 b65=>[Sl aG x13a r11.2.1,Sl aE x13b z14,PF (Value.agg #[vS r11.1,x13a,x13b]),Sl bD v0 p0.2.1,Sl bD v1 p0.2.2.1,Sl bD v2 p0.2.2.2.1,Sl bD v3 p1,Gb 0 (cellsOf CB rK)]) ?_ ?_
   ·refine JR.start [0,1,0,7,15,31,63,127,255,511,255,2047,4095,8191,16383,255,255,98559,229631,524287,1048575] 19 mixedOrders (by decide +kernel) ?_
    refine JR.open (by exact rfl) ?_
    refine jkFld rfl<|jkLd 0 rfl<|jkMove rfl<|ckE h fun j67 h=>bZ (bW 4 rfl) fun hl68=>?_
    refine bG rfl (aQ.cons 3 rfl .nil) .nil (fH 0 rfl rfl rfl rfl rfl j67.1 (by have q1:=j67.2;have q2:=hl68;(try simp only[List.length_set]at q1);(try simp only[List.length_set]at q2);(try simp only[List.length_set]);omega)) aK.z ?_
    refine bZ (bW 4 rfl) fun hl69=>bG rfl (aQ.cons 3 rfl .nil) .nil (jO 0 rfl rfl hl69 rfl rfl j67) aK.z<|bG rfl (aQ.cons 4 rfl .nil) .nil (fR rfl (aC.row (j:=0) rfl cP j67.1 j67.2) rfl) aK.z<|jqN rfl (AF rfl rfl)<|jkMove rfl ?_
    refine Hx (by exact rfl) (by exact rfl) (by exact rfl) (fun hp70=>?_) (fun hp70=>?_)
    ·have h:=RY hp70 h
     refine dQ rfl rfl rfl rfl<|dQ rfl rfl rfl rfl<|dQ rfl rfl rfl rfl<|dQ rfl rfl rfl rfl<|dQ rfl rfl rfl rfl<|dQ rfl rfl rfl rfl<|dQ rfl rfl rfl rfl<|dQ rfl rfl rfl rfl<|dQ rfl rfl rfl rfl<|dQ rfl rfl rfl rfl<|dQ rfl rfl rfl rfl<|bO 19 rfl rfl<|gdSkip rfl<|qkPkT rfl<|dtN ?_
     exact jV (true) () h SF rfl
    have h:=Yq hp70 h
    refine kB rfl .nil .nil (c_ rfl rfl rfl rfl rfl) aK.z<|kB rfl (aQ.cons 0 rfl .nil) .nil (dX 0 rfl rfl rfl rfl rfl) aK.z<|kB rfl .nil .nil (kM rfl) aK.z<|ckE h fun j71 h=>bZ (bW 4 rfl) fun hl72=>?_
    refine kB rfl (aQ.cons 3 rfl .nil) .nil (fH 0 rfl rfl rfl rfl rfl j71.1 (by have q1:=j71.2;have q2:=hl72;(try simp only[List.length_set]at q1);(try simp only[List.length_set]at q2);(try simp only[List.length_set]);omega)) aK.z ?_
    refine bZ (bW 4 rfl) fun hl73=>kB rfl (aQ.cons 3 rfl .nil) .nil (jO 0 rfl rfl hl73 rfl rfl j71) aK.z<|ckE h fun j74 h=>bZ (Know.len (aC.row (j:=4) rfl cP j71.1 j71.2)) fun hl75=>kB rfl .nil .nil (FN rfl rfl hl75 rfl rfl j74) aK.z<|kB rfl (aQ.cons 4 rfl .nil) .nil (bT rfl (aC.row (j:=0) rfl cP j71.1 j71.2) rfl rfl rfl dO j74) aK.z<|kB rfl .nil .nil (kM rfl) aK.z<|kB rfl .nil .nil (kM rfl) aK.z<|ckE h fun j76 h=>kB rfl (aQ.cons 5 rfl .nil) .nil (aY rfl rfl (aU (aC.res 0 rfl) cP) rfl rfl j76) aK.z<|kB rfl (aQ.cons 5 rfl .nil) .nil (bT rfl (aU (aC.res 0 rfl) cP) rfl rfl rfl dO j76) aK.z<|bO 19 rfl rfl<|aR rfl (AF rfl rfl) rfl<|qkPkF rfl<|dtN ?_
    exact jV (decide ((at' (at' a42.2.2.2.2.2.2.2.2 a59) (0:Int))≠(at' r25 a59))) () h SF rfl
   intro a64 b65 h
   refine As h rfl (fun _ h=>?_) fun _ h=>?_
   ·refine sqR<|qkAsg rfl<|dtN<|aP<|bK<|aH<|aH<|bK<|aH ?_
    cases h
    exact tV rfl
   refine cU<|inT<|aM<|qkMove rfl<|qkAdd rfl<|qkAsg rfl<|dtN ?_
   exact yF (wI .i64 (a59+(1:Int))) () h SF rfl
  refine Go.Sx.vT ?_
  exact bY () (()) h SF (aQ.ix [0,1,2,3,4] rfl rfl) (aD.refl _ _)
 intro a48 b49 h
 refine aI<|vF (B:=Unit) (fun a51=>gC  a51=some r) (fun a51 b52=>[(6,vB (a51))]) (fun a51 b52=>[]) (fun a51 b52=>[Sl aG x13a r11.2.1,Sl aE x13b z14,PF (Value.agg #[vS r11.1,x13a,x13b]),Sl bD v0 p0.2.1,Sl bD v1 p0.2.2.1,Sl bD v2 p0.2.2.2.1,Sl bD v3 p1,Gb 0 (cellsOf CB rK)]) ?_ ?_
 ·refine aM<|bnE h fun r53 w54 h=>aF (aJ.callQ QU (Ht U  r53 w54) rfl (oI [7] rfl)) rfl fun x55=>qkMove rfl ?_
  refine CE (by exact rfl) (by exact rfl) (fun hp56=>?_) (fun hp56=>?_)
  ·have h:=RY hp56 h
   refine aR rfl (c_ rfl rfl rfl rfl rfl) rfl<|aR rfl (c_ rfl rfl rfl rfl rfl) rfl<|aR rfl (dX 0 rfl rfl rfl rfl rfl) rfl<|gyMove rfl<|aR rfl (pQ rfl rfl) rfl<|aR rfl (yM rfl rfl) rfl<|qkPkT rfl<|qkAsg rfl<|dtN ?_
   exact bY (decide (a42.2.2.2.2.1<=(wI .i64 ((List.length r2.2:Int)+(1:Int))))) () h SF .nil (aD.refl _ _)
  have h:=RX hp56 h
  refine gdSkip rfl<|gdSkip rfl<|gdSkip rfl<|gdSkip rfl<|gdSkip rfl<|gdSkip rfl<|qkPkF rfl<|qkAsg rfl<|dtN ?_
  exact bY (false) () h SF .nil (aD.refl _ _)
 intro a51 b52 h
 unfold gC at h
 refine aP ?_
 cases h
 exact lI rfl
end Go.Proofs.YtigggfnchamobaaGreatDoor
end
section
namespace Go.Proofs.YtigggfnchamobaaGreatDoor
open Go Go.Sx
theorem Xo {g:GR} (hV:VM g.1 g.2) (h:∀v:Nat,1<=v->v<g.2.length->∃u:Nat,u<v∧kL g.2 u v):Qj g:=by
 have hg:VG g:=hV.vg
 have h1:=hg.n1
 have w0:∀v,v<g.2.length->∃k,vH g 0 k v:=by
  intro v
  induction v using Nat.strongRecOn with
  | _ v ih =>
   intro hv
   by_cases h0:v=0
   ·subst h0;exact⟨0,rfl,hv⟩
   ·obtain⟨u,hu,x,hx,he⟩:=h v (by omega) hv
    obtain⟨k,hw⟩:=ih u hu (by omega)
    obtain⟨i,hi,hie⟩:=Bi hx
    refine⟨k+1,u,hw,i,hi,?_⟩
    show(at' (at' g.2 (u:Int)) (i:Int)).1=_
    rw[hie,he]
 intro u v hu hv
 obtain⟨a,ha⟩:=w0 u hu
 obtain⟨b,hb⟩:=w0 v hv
 exact⟨a+b,(FK hg ha).trans hb⟩
theorem ZM:∀x,x<fX.length->AD (at' fX (x:Int)) ∧ -100000<=(at' fX (x:Int)).2.2.1∧(at' fX (x:Int)).2.2.1<=(at' fX (x:Int)).2.2.2.1:=by
 intro x hx
 refine⟨Oq x hx,?_⟩
 have hx:x<2:=hx
 match x,hx with
 |0,_=>exact⟨by decide,by decide⟩
 |1,_=>exact⟨by decide,by decide⟩
theorem Gd (x:OO) (raw:aL) (p2:Int) (h0:0<=p2) (h1:p2<4294967296):oB 1000 x raw p2=some true:=by
 obtain⟨d,rfl⟩:∃d:Nat,p2=d:=⟨p2.toNat,by omega⟩
 have hd:d<4294967296:=by omega
 obtain⟨g,hg,hVM,hn8,hT⟩:=IS x 8 (by omega) (by omega)
 have hV:VG g:=hVM.vg
 have h24:=hV.n24
 have hn1:=hV.n1
 have hF:ZN g:=⟨hV,Xo hVM hT⟩
 obtain⟨c0,hc,hc0⟩:=Ph hV fX raw (by decide) ZM
 have hCf:=(ZA hV).1 hc0
 obtain⟨l,hs,hcm,hl⟩:=Hl hd hF hCf
 have hW:OT g c0 d (D l):=VU ⟨hV,hCf⟩ hs hcm
 have hll:=hs.len
 obtain⟨ws,hws,hwl,hwb⟩:=P_ [] (n:=g.2.length+1) (by omega)
 obtain⟨lv,hlv,hlv32,hlvb⟩:=Ri hd
 unfold oB
 rw[show gF 1000 (x.1,x.2.1,x.2.2.1,x.2.2.2.1,x.2.2.2.2.1,x.2.2.2.2.2) 8=some g from hg,bB rfl,bB (show zO 1000=some Ck from rfl)]
 rw[bB (SK 1000)]
 refine Ua fun z hz=> ?_
 have hz:z.map wB=DX RB:=hz
 let p:BC:=(ByteArray.mk #[98,102,115],fX,z)
 rw[Yj,bB rfl,show lA 1000 (g.1,g.2) fX raw=some c0 from hc,bB rfl,bB (show jS 1000 (g.1,g.2) c0 (d:Int)=some l from hl),dU (by omega),bB hws]
 obtain⟨k,c,ch,cnt,ens,hrun,hI,hsh,hk,hchl,hel,hea,hend⟩:=Pq (p:=p) hV (Ws hV) hz Om (kind:=4) (by omega) (by omega) hc0 hlv32 (ws:=ws) (by omega) hwb
  (fun k c ch cnt=>∃B,TI p g d lv (D l) k c cnt k B (vE (bI p g) RB lv c)) ⟨_,Ye hV hW hlvb hc0 fun v hv hdv=>((hW.dead v hv hdv).symm)⟩
  (fun k c ch cnt t cnt' err hk hsh hI hne ht0 hsub _ hall hadd=>by
   obtain⟨B,hI⟩:=hI
   obtain⟨R',B',pe',h,he⟩:=ZF hV hW hlvb (by omega) hI hne ht0 hsub hadd
   obtain⟨rfl,rfl⟩:=he (hall rfl) rfl
   exact⟨B',h⟩)
 obtain⟨B,hI⟩:=hI
 have hf:tF 1000 p (g.1,g.2) 4 c0 (d:Int) ws=some ((KF ch,ens,c,cnt),0):=by
  unfold tF
  rw[hlv,bB (show kZ 1000 _ _ 4 c0 (lv:Int) ws=_ from hrun)]
 refine(bB hf).trans ?_
 have hcl:=hsh.len
 have hen0:vE (bI p g) RB lv c=0:=by
  rcases hend with e|e
  ·exact hI.last (by omega)
  ·exact e
 have hce:oJ 1000 p (g.1,g.2) c (d:Int)=some 0:=by
  have:=EK (p:=p) hV (Ws hV) hz Om hI.r hd hlvb
  rw[hen0]at this
  exact this
 have hset:∀v,v<g.2.length->Ai c v=D l v:=fun v hv=>VF hV hW hI.r hI.dead (fun u hu hdu=>Ef (p:=p) hlvb hV hu hdu (by rw[hen0];exact Nat.zero_testBit u)) hv
 unfold nK
 dsimp only
 rw[if_neg (by decide),if_neg (by rw[hll];simp),if_neg (by rw[hcl];simp)]
 refine(bB hce).trans ?_
 rw[decide_eq_false (by decide)]
 unfold eQ
 rw[if_neg (by decide)]
 refine dR (step:=eR 1000 g l _) (K:=some true) g.2.length (fun v=>(v:Int)) (fun v ag hv=> ?_) (fun ag=> ?_) 1000 (by omega)
 ·have hrow:(at' c (v:Int)).length=2:=hI.r.row v hv
  unfold eR jR
  dsimp only
  rw[if_pos (by omega),cL (by omega),if_neg (by rw[hrow];simp),cL (by omega),cL (by omega),cL (by omega),decide_eq_false (show¬at' (at' c (v:Int)) 0≠at' l (v:Int)from fun q=>q (hset v hv)),dU (by omega)]
  rfl
 ·unfold eR
  rw[if_neg (by omega)]
  unfold nL gC
  rw[bB (show yA 1000=some true from rfl),if_pos rfl]
  have hb:=hI.cnt.begun
  have:=hI.bg
  dsimp only
  rw[hb,dU (by omega),decide_eq_true (by omega)]
end Go.Proofs.YtigggfnchamobaaGreatDoor
end
section
namespace Go.Sx
open Go.RowKit Go.ChangeShapes Go.WideShapes Go.ChangeAt Go.Proofs Go.Joins Go.Deep
section
variable {H:Type} {enc:TypeId×Value->H} {P:Program} {w:World} {base:Nat} {spare:Nat->Bool} {held:Bool}
theorem Hm {α:Type} (l:List α) (d:α):l=(List.range l.length).map fun i=>l.getD i d:=by
 apply List.ext_getElem?
 intro i
 by_cases h:i<l.length
 ·simp[h]
 ·simp[h]
theorem SE {r:Reach} {b0:Nat} {t:TypeId} {fs:Array Field} {v:Value} {d:DataW H} {p:List MemPlace} (hs:P.underlying t=some (.struct fs)) (hone:oneCellFields P fs=true) (hC:P.cellsOf t=fs.size)
  (hv:Value.okWide P w r b0 t v) (h:DataW.Trod enc P w base spare held t v d p):
  ∃(V:Nat->Value) (Y:Nat->DataW H×List MemPlace) (n:Nat),v = .agg ((List.range fs.size).map V).toArray∧∀(i:Nat) (f:Field),fs[i]? = some f->DataW.trod enc P w base spare held n f.type [V i]=some (Y i):=by
 obtain⟨cs,rfl,hsz⟩:=okWide_struct hs hv
 obtain⟨fuel,hf⟩:=h
 obtain⟨xs,n,_,_,_,hlen,hg⟩:=DataW.trod_struct hs hf
 refine⟨fun i=>cs.toList.getD i undef,fun i=>xs.getD i (.nil,[]),n,?_,fun i f hi=> ?_⟩
 ·congr 1
  apply Array.toList_inj.1
  show cs.toList=(List.range fs.size).map fun i=>cs.toList.getD i undef
  have h2:fs.size=cs.toList.length:=by rw[<-hC,<-hsz];rfl
  rw[h2]
  exact Hm cs.toList undef
 ·have hlt:i<fs.size:=(Array.getElem?_eq_some_iff.1 hi).1
  obtain⟨o,k⟩:=hone_of hone i f hi
  have g:=hg i f hi
  have hcl:(Value.cells (.agg cs)).toList=cs.toList:=rfl
  have hl:i<cs.toList.length:=by rw[Array.length_toList];omega
  rw[o,k,hcl,take1_drop _ _ undef hl]at g
  rw[g]
  have hx:i<xs.length:=by omega
  simp[hx]
theorem Sd {k:IntKind} {e:TypeId} (he:P.underlying e=some (.int k)) {n:Nat} {v:Value} {x:DataW H×List MemPlace} (h:DataW.trod enc P w base spare held n e [v]=some x):∃y:Int,v = .int k y:=by
 obtain⟨y,hy,_,_⟩:=DataW.trod_int he h
 exact⟨y,by simpa using hy⟩
theorem HV {e:TypeId} (he:P.underlying e=some .bool) {n:Nat} {v:Value} {x:DataW H×List MemPlace} (h:DataW.trod enc P w base spare held n e [v]=some x):∃y:Bool,v = .bool y:=by
 obtain⟨y,hy,_⟩:=DataW.trod_bool he h
 exact⟨y,by simpa using hy⟩
theorem Tx {n:Int} (h:(Lit.int .u32 n).wf=true):0<=n∧n<4294967296:=by
 simp only[Lit.wf,Bool.and_eq_true,decide_eq_true_eq]at h
 have e1:IntKind.u32.min=0:=by decide
 have e2:IntKind.u32.max=4294967295:=by decide
 omega
end
end Go.Sx
end
section
set_option maxRecDepth 100000
namespace Go.Sx
open Go.RowKit Go.ChangeShapes Go.WideShapes Go.ChangeAt Go.Proofs Go.Joins
theorem My {P:Program} {W:World} {n:String} {b m t t':Nat} {k:IntKind} {xs:aL} (h:laidMet P [(n,.agg (xs.map fun x=> .lit (.int k x)))] W) (hg:P.globalNamed n=some b)
  (ht:(P.globals[b]?).map (·.type)=some t) (hu:P.underlying t=some (.array m t')) (hu':P.underlying t'=some (.int k)) (hc:P.cellsOf t'=1) (hcm:P.cellsOf t=m) (hm:0<m):(Gb b (cellsOf (cZ.int k) xs)).p W (fun _=>True):=by
 obtain⟨ps,⟨g,t2,cs,fuel,p,q,e1,e2,e3,e4,e5,e6⟩,hnd,hcell⟩:=h
 rw[hg]at e1;cases e1
 rw[ht]at e2;cases e2
 refine⟨trivial,?_⟩
 obtain⟨ys,ml,_,e7,hl,hyl,hf⟩:=DataW.trod_array hu e4
 simp only[Prod.mk.injEq,DataW.agg.injEq]at e7
 have hlen:xs.length=m:=by rw[<-hyl];simpa using congrArg List.length e7.1
 have hcl:cs.size=m:=by rw[<-hcm,<-hl];simp
 have hcs:cs.toList=cellsOf (cZ.int k) xs:=by
  refine List.ext_getElem? fun i=> ?_
  by_cases hi:i<m
  ·have h1:=hf i hi
   rw[hc,Nat.mul_one]at h1
   have hx:xs[i]? = some (xs[i]'(by omega)):=List.getElem?_eq_getElem _
   have h2:=sO (cZ.int k) xs i _ hx 0 _ rfl
   rw[show i*(cZ.int k).sz+0=i from Nat.mul_one i]at h2
   rw[h2]
   have hy:ys[i]? = some (ys[i]'(by omega)):=List.getElem?_eq_getElem _
   rw[hy]at h1
   obtain⟨z,hz,hz2,_⟩:=DataW.trod_int hu' h1
   have hc0:cs.toList[i]? = some (.int k z):=by
    have:=congrArg (·[0]?) hz
    simpa [List.getElem?_take,List.getElem?_drop]using this
   rw[hc0]
   have h3:=congrArg (·[i]?) e7.1
   simp only[List.getElem?_map,hx,hy,Option.map_some,Option.some.injEq]at h3
   rw[hz2]at h3
   have h4:xs[i]=z:=by simpa using h3
   rw[h4]
  ·rw[List.getElem?_eq_none (by simp;omega),List.getElem?_eq_none (by rw[cW,hlen];show m*1<=i;omega)]
 have hmem:MemPlace.cell b 0∈ps:=by
  rw[e6]
  refine List.mem_append_left _ (List.mem_append_left _ ?_)
  exact List.mem_map.2 ⟨0,by simp;omega,rfl⟩
 obtain⟨⟨c,T,hb⟩,_⟩:=hcell b 0 hmem
 refine⟨T,?_⟩
 have h5:c=cs:=by
  have h6:(W.var? P n)=some c:=by unfold World.var?;rw[hg];simp[hb]
  rw[h6]at e3;exact Option.some.inj e3
 rw[hb,h5,<-hcs]
theorem KH {H:Type} {enc:TypeId×Value->H} {os:Os} (ld:List (String×DataW Unit)) (hpl:(ld.all fun x=>x.2.handleName?.isNone)=true) (started:os.Started) {f:FuncId} {fn:Func} {s:ChangeSpec} {r:Bool} (hfn:Tryz.prog.funcs[f]? = some fn) (noInit:Tryz.prog.inits.idxOf? f=none)
  (hread:(fn.params.toList.all fun t=>Tryz.prog.readableRec t&&decide (t<Tryz.prog.types.size))=true) (hres:fn.resultTypes = #[4]) (hvars:s.vars=[])
  (hspec:∀ds:List (DataW H),ds.length=fn.params.toList.length->s.fn H ds={results:=[.lit (.bool true)],args:=ds})
  (witness:∃(w:World) (tape:Tape) (i:Input),w.os=os∧(w.forCall tape i).Shaped Tryz.prog∧i.vars=[]∧Input.okWide Tryz.prog (w.forCall tape i) .any w.heap.size f i∧
   ((s.pre enc Tryz.prog fn [] false (w.forCall tape i).memory i.args∧laidMetH Tryz.prog ld (w.forCall tape i).memory)∧sizedMet enc Tryz.prog fn (OpenSpec.ofChange s) false (w.forCall tape i).memory i.args)∧({}:Assume).holds Tryz.prog (lone (Frame.enter Tryz.prog f i.args .normal) [] (w.forCall tape i)))
  (main:∀(W:World) (base:Nat) (args:Array Value) (ds:List (DataW H)) (p:List MemPlace),laidMetH Tryz.prog ld W->(∀(j:Nat) t v,fn.params[j]? = some t->args[j]? = some v->Value.okWide Tryz.prog W .any base t v)->
   DataW.TrodAll enc Tryz.prog W 0 (fun _=>true) true fn.params.toList args.toList ds p->Calls Tryz.prog f args W fun e W'=>e = .returned (.bool true)∧Ix W W'):
  ReturnsInHanded {} Go.Proofs.YtigggfnchamobaaGreatDoor.Tryz.pinned.checked os f .any (fun w args=>(s.pre enc Tryz.prog fn [] false w args∧laidMetH Tryz.prog ld w)∧sizedMet enc Tryz.prog fn (OpenSpec.ofChange s) false w args) (s.post enc Tryz.prog fn false r false false):=by
 refine returnsInHanded_of_change_and (C:=Go.Proofs.YtigggfnchamobaaGreatDoor.Tryz.pinned.checked) (X:=fun w _=>laidMetH Tryz.prog ld w) (fun _ _ _ hh h=>by rw[MakeChecks.laidMetH_plain _ _ _ hpl]at h ⊢;exact h.of_heap hh) abN started noInit hfn witness ?_
 intro W base args ds gs before hval hW _ _ hL _
 have hlt:=hW.lt
 have hW':=hW
 obtain⟨p,q,hA,hV,rfl,_,_⟩:=hW
 rw[hvars]at hV
 obtain⟨rfl,rfl⟩:=trodVars_none hV
 refine(main W base args ds p hL hval hA).mono ?_
 rintro e W' ⟨rfl,hb⟩
 refine⟨_,rfl,?_⟩
 have hlen:ds.length=fn.params.toList.length:=by
  have:∀(ts:List TypeId) (vs:fJ) (ds:List (DataW H)) (p:List MemPlace),DataW.TrodAll enc Tryz.prog W 0 (fun _=>true) true ts vs ds p->ds.length=ts.length:=by
   intro ts
   induction ts with
   |nil=>intro vs ds p h;cases vs<;>cases ds<;>first|rfl|exact h.elim
   | cons t ts ih =>
    intro vs ds p h
    cases vs with
    |nil=>exact h.elim
    |cons v vs=>
     cases ds with
     |nil=>exact h.elim
     |cons d ds=>obtain⟨_,_,_,h2,_⟩:=h;simp[ih vs ds _ h2]
  exact this _ _ _ _ hA
 have hs:s.fn H (ds++[])={results:=[.lit (.bool true)],args:=ds}:=by rw[List.append_nil];exact hspec ds hlen
 refine⟨ds,[],p++[],[],p,[],hW',?_,?_,?_,hb.frame _,fun h=>by cases h⟩
 ·rw[hs,hres]
  exact trodAll_mk1 (shut_bool Tryz.underlying4 true)
 ·rw[hs]
  exact BW Zt hb _ _ _ _ hread hA (fun x hx=>hlt x (List.mem_append_left _ hx))
 ·rw[hs,hvars];exact rfl
theorem Py {P:Program} {n:String} {k:IntKind} {xs:aL} {W:World} (h:laidMetH P [(n,.agg (xs.map fun x=> .lit (.int k x)))] W):laidMet P [(n,.agg (xs.map fun x=> .lit (.int k x)))] W:=by
 rw[MakeChecks.laidMetH_plain _ _ _ (by rfl)]at h;exact h
end Go.Sx
end
