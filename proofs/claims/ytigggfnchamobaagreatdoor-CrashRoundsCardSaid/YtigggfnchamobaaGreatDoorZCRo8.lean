/- Models and proofs. Conditions: none. -/
import Derived.Test.YtigggfnchamobaaGreatDoorZCRo5
import Derived.Test.YtigggfnchamobaaGreatDoorZCRo6
import Derived.Test.YtigggfnchamobaaGreatDoorZCRo7
import Derived.Test.YtigggfnchamobaaGreatDoorZCRo2
import Derived.Test.YtigggfnchamobaaGreatDoorZCRo1
import Derived.OpenShut
import Derived.LaidLaws
import Derived.LaidHandle
import Derived.Lay
import Derived.MakeChecks
set_option linter.unusedVariables false
set_option linter.unusedSimpArgs false
set_option maxHeartbeats 4000000
set_option maxRecDepth 20000
section
namespace Go.Proofs.YtigggfnchamobaaGreatDoor
open Go.Sx
def qS  (a37:GJ):Option yN:=
 some (((a37.2.2.2.2.2.2.1,a37.2.2.2.2.2.2.2.1,a37.2.2.2.2.2.2.2.2,((a37.1,a37.2.1,a37.2.2.1,a37.2.2.2.1,a37.2.2.2.2.1)))),a37.2.2.2.2.2.1)
def mJ  (a59:aL×aL×a_×Int×Int×Int×Int×Int×Int):Option yN:=
 qS  (a59.2.2.2.1,a59.2.2.2.2.1,a59.2.2.2.2.2.1,a59.2.2.2.2.2.2.1,a59.2.2.2.2.2.2.2.1,a59.2.2.2.2.2.2.2.2,a59.1,a59.2.1,a59.2.2.1)
def jY  (a96:aL×Int×Int×Int×Int×Int×a_×aL):Option yN:=
 mJ  (a96.2.2.2.2.2.2.2,a96.1,a96.2.2.2.2.2.2.1,a96.2.1,a96.2.2.1,a96.2.2.2.1,a96.2.2.2.2.1,a96.2.2.2.2.2.1,(0:Int))
def qT (U:Nat) (p0:wX) (p1:dB) (p2:Int) (p4:Int) (a20:Int×aL×dZ×Int×a_) (a119:Int×aL×Int×Int×Int×Int×Int×Int×a_×aL) (ag118:(Int×aL×Int×Int×Int×Int×Int×Int×a_×aL)->Option yN) (a124:Int):Option yN:=
 if¬(a119.1≠(0:Int))then(jY  (a119.2.1,a119.2.2.2.1,a119.2.2.2.2.1,a119.2.2.2.2.2.1,a119.2.2.2.2.2.2.1,a119.2.2.2.2.2.2.2.1,a119.2.2.2.2.2.2.2.2.1,a119.2.2.2.2.2.2.2.2.2))else(Option.bind (fD U a20.2.1 p2 a119.1 a124) fun r127=>(if(!r127)=true then(mJ  (([]:aL),([]:aL),([]:a_),(0:Int),(0:Int),(0:Int),(0:Int),(0:Int),(11:Int)))else(Option.bind (gC U ((((p0.1,p0.2.1,p0.2.2)),((((p0.1,p0.2.1,p0.2.2)),((p1.1,p1.2)),a20.2.2.2.1,a20.2.2.2.2)),a20.2.2.1)) a119.2.2.2.2.2.2.2.2.1 a124) fun r131=>(Option.bind (cZ U ((((p0.1,p0.2.1,p0.2.2)),((((p0.1,p0.2.1,p0.2.2)),((p1.1,p1.2)),a20.2.2.2.1,a20.2.2.2.2)),a20.2.2.1)) r131) fun r134=>(Option.bind (iZ U ((a119.2.2.2.1,a119.2.2.2.2.1,a119.2.2.2.2.2.1,a119.2.2.2.2.2.2.1,a119.2.2.2.2.2.2.2.1)) a124 (cQ .u32 r134 p4)) fun r137=>(Option.bind (qC U r131 (cQ .u32 r134 p4) ((r137.1.1,r137.1.2.1,r137.1.2.2.1,r137.1.2.2.2.1,r137.1.2.2.2.2))) fun r140=>(ck ((List.length a119.2.2.2.2.2.2.2.2.2:Int)+(List.length ([a124]):Int)<=1099511627) (ck ((List.length a119.2.1:Int)+(List.length ([(cQ .u32 r134 p4)]):Int)<=1099511627) (ag118 ((cQ .u32 r134 p4),(a119.2.1++([(cQ .u32 r134 p4)])),(wI .i64 (a119.2.2.1+(1:Int))),r137.1.1,r137.1.2.1,r137.1.2.2.1,r137.1.2.2.2.1,r137.1.2.2.2.2,r131,(a119.2.2.2.2.2.2.2.2.2++[a124])))))))))))
def j_ (U:Nat) (p0:wX) (p1:dB) (p2:Int) (p4:Int) (p5:aL) (a20:Int×aL×dZ×Int×a_) (a119:Int×aL×Int×Int×Int×Int×Int×Int×a_×aL) (ag118:(Int×aL×Int×Int×Int×Int×Int×Int×a_×aL)->Option yN):Option yN:=
 if a119.2.2.1<(List.length p5:Int)then(ck (0<=a119.2.2.1∧a119.2.2.1<(List.length p5:Int)) (Option.bind (fE U a20.2.1 p2 a119.1 (at' p5 a119.2.2.1)) fun r152=>(qT U p0 p1 p2 p4 a20 a119 ag118 (r152))))else(jY  (a119.2.1,a119.2.2.2.1,a119.2.2.2.2.1,a119.2.2.2.2.2.1,a119.2.2.2.2.2.2.1,a119.2.2.2.2.2.2.2.1,a119.2.2.2.2.2.2.2.2.1,a119.2.2.2.2.2.2.2.2.2))
def qR (U:Nat) (p0:wX) (p1:dB) (p2:Int) (p3:a_) (p4:Int) (p5:aL) (a20:Int×aL×dZ×Int×a_):Option yN:=
 Option.bind (rA U p3) fun r67=>(Option.bind (cZ U ((((p0.1,p0.2.1,p0.2.2)),((((p0.1,p0.2.1,p0.2.2)),((p1.1,p1.2)),a20.2.2.2.1,a20.2.2.2.2)),a20.2.2.1)) r67) fun r70=>(Option.bind (rS U (cQ .u32 r70 p4)) fun r73=>(Option.bind (qC U r67 (cQ .u32 r70 p4) ((r73.1,r73.2.1,r73.2.2.1,r73.2.2.2.1,r73.2.2.2.2))) fun r77=>(ck ((List.length ([]:aL):Int)+(List.length ([(cQ .u32 r70 p4)]):Int)<=1099511627) (bD (j_ U p0 p1 p2 p4 p5 a20) U ((cQ .u32 r70 p4),(([]:aL)++([(cQ .u32 r70 p4)])),(0:Int),r73.1,r73.2.1,r73.2.2.1,r73.2.2.2.1,r73.2.2.2.2,r67,([]:aL)))))))
def mK (U:Nat) (p0:wX) (p1:dB) (p2:Int) (p3:a_) (p4:Int) (p5:aL) (a167:dZ×Int×a_):Option yN:=
 Option.bind (oE U ((p1.1,p1.2))) fun r169=>(Option.bind (uR U ((p1.1,p1.2))) fun r172=>(qR U p0 p1 p2 p3 p4 p5 (r172,r169,a167.1,a167.2.1,a167.2.2)))
def mL (U:Nat) (p0:wX) (p1:dB) (p2:Int) (p3:a_) (p4:Int) (p5:aL) (a184:Int×a_):Option yN:=
 Option.bind (kV U ((p0.1,p0.2.1,p0.2.2)) ((p1.1,p1.2))) fun r186=>(mK U p0 p1 p2 p3 p4 p5 (r186,a184.1,a184.2))
def jZ (U:Nat) (p0:wX) (p1:dB) (p2:Int) (p3:a_) (p4:Int) (p5:aL) (a200:Int×a_):Option yN:=
 mL U p0 p1 p2 p3 p4 p5 (a200.1,a200.2)
def mM (p1:dB) (a207:Int×Int×a_) (ag206:(Int×Int×a_)->Option yN) (a213:a_):Option yN:=
 ag206 ((wI .i64 (a207.1+(1:Int))),(max a207.2.1 (at' p1.1 a207.1)),a213)
def gU (U:Nat) (p1:dB) (a207:Int×Int×a_) (ag206:(Int×Int×a_)->Option yN) (a221:Int×a_) (ag220:(Int×a_)->Option yN):Option yN:=
 if a221.1<(List.length (at' p1.2 a207.1):Int)then(ck (0<=a221.1∧a221.1<(List.length (at' p1.2 a207.1):Int)) (ck (0<=a207.1∧a207.1<(List.length a221.2:Int)) (Option.bind (pO U ((p1.1,p1.2)) ((at' (at' p1.2 a207.1) a221.1).1) a207.1) fun r230=>(ck ((List.length (at' a221.2 a207.1):Int)+(List.length ([r230]):Int)<=1099511627) (ck (0<=a207.1∧a207.1<(List.length (List.set a221.2 (Int.toNat a207.1) ((at' a221.2 a207.1)++[r230])):Int)) (ag220 ((wI .i64 (a221.1+(1:Int))),(List.set a221.2 (Int.toNat a207.1) ((at' a221.2 a207.1)++[r230])))))))))else(mM p1 a207 ag206 (a221.2))
def eF (U:Nat) (p0:wX) (p1:dB) (p2:Int) (p3:a_) (p4:Int) (p5:aL) (a207:Int×Int×a_) (ag206:(Int×Int×a_)->Option yN):Option yN:=
 if a207.1<(List.length p1.2:Int)then(ck (0<=a207.1∧a207.1<(List.length p1.2:Int)) (ck (0<=a207.1∧a207.1<(List.length p1.1:Int)) (bD (gU U p1 a207 ag206) U ((0:Int),a207.2.2))))else(jZ U p0 p1 p2 p3 p4 p5 (a207.2.1,a207.2.2))
def kW (U:Nat) (p0:wX) (p1:dB) (p2:Int) (p3:a_) (p4:Int) (p5:aL):Option yN:=
 Option.bind (uS U ((p0.1,p0.2.1,p0.2.2)) ((p1.1,p1.2)) p2 p3 (List.length p5:Int)) fun r4=>(if r4≠(0:Int)then(some (((([]:aL),([]:aL),([]:a_),(((0:Int),(0:Int),(0:Int),(0:Int),(0:Int))))),r4))else(ck (0<=(List.length p1.2:Int)∧(List.length p1.2:Int)<=1099511627) (bD (eF U p0 p1 p2 p3 p4 p5) U ((0:Int),(0:Int),(List.replicate (Int.toNat (List.length p1.2:Int)) ([]:aL))))))
theorem Wy:aP Tryz.prog 36:=Tryz.call36
theorem Ch (U:Nat) {p0:wX} {p1:dB} {p2:Int} {p3:a_} {p4:Int} {p5:aL} (v0:Value)  (v1:Value)  (v2:Value)  (v3:Value)  (z4:nK)  (v5:Value)  (z6:qU)  (v7:Value) (r:(aL×aL×a_×(Int×Int×Int×Int×Int))×Int) (h:kW U p0 p1 p2 p3 p4 p5=some r):
  aU Tryz.prog 36 #[Value.agg #[vS (p0.1),v0,v1],Value.agg #[v2,v3],vI (p2),v5,vU (p4),v7] [Sl aJ v0 p0.2.1,Sl aF v1 p0.2.2,PF (Value.agg #[vS p0.1,v0,v1]),Sl bL v2 p1.1,S2 aW v3 z4 p1.2,S2 bL v5 z6 p3,Sl xN v7 p5,Gb 0 (cellsOf Fg uU)] (fun x:NZ=>Value.tuple #[Value.agg #[x.1,x.2.1,x.2.2.1,vI (r.1.2.2.2.1),vI (r.1.2.2.2.2.1),vI (r.1.2.2.2.2.2.1),vI (r.1.2.2.2.2.2.2.1),vU (r.1.2.2.2.2.2.2.2)],vI (r.2)]) (fun x l=>Ar iV x.1 r.1.1::Ar iV x.2.1 r.1.2.1::Ar c_.raw x.2.2.1 x.2.2.2::jK bU x.2.2.2 r.1.2.2.1::l) (fun _ l=>l):=by
 refine aU.of Tryz.func36 rfl Tryz.ntmps36 rfl fun c=>?_
 refine sqR<|aE (aI.box (cs:=[vS (p0.1),v0,v1]) rfl rfl) rfl fun b1=>aE (aI.box (cs:=[v2,v3]) rfl rfl) rfl fun b2=>aE (aI.alloc (cs:=Bv) rfl rfl) rfl fun b3=>qkAsg rfl<|dtN<|aH<|sqR<|qkLdA 2 rfl<|qkLdA 1 rfl<|qkMove rfl<|qkMove rfl<|qkMove rfl<|qkLen (aC.fact 6 rfl) rfl<|bnE h fun r4 w5 h=>aE (aI.callQ WC (KZ U v0 v1 v2 v3 z4 v5 z6 r4 w5) rfl (nE [0,1,2,3,4,5] rfl)) rfl fun x6=>qkAsg rfl<|dtN<|sqR<|qkMove rfl<|qkNeq rfl<|dtN ?_
 refine eD h rfl (fun h=>?_) fun h=>?_
 ·refine sqR ?_
  refine aB (Fw (r:=Value.agg #[lX,lX,lX,vI (0:Int),vI (0:Int),vI (0:Int),vI (0:Int),vU (0:Int)]) (by intro w;simp[Instr.build,Instr.fill,dU,cX,cK,dV,dW,cY,eP])) rfl ?_
  refine qkMove rfl<|bF 0 (vs:=Bv) rfl rfl rfl rfl rfl rfl<|qkAsg rfl<|dtN<|aQ<|aG<|jM (iI iV)<|jM (iI iV)<|jM (iI c_.raw) (jM (xA bU) ?_)
  cases h
  exact iX ((lX),(lX),(lX),([]:gH)) rfl rfl (RV.cell 4 rfl rfl rfl rfl) (RV.tmp rfl) (aT.ix [2,3,1,0] rfl rfl) aD.nil
 refine cG<|sqR<|qkLdA 2 rfl<|qkLdA 1 rfl<|qkMove rfl<|yR (A:=Int×aL×dZ×Int×a_) (B:=Nat×Value×Nat×Value×List Value×Value×List Value) (vs:=[Value.agg #[vS (p0.1),v0,v1],Value.agg #[v2,v3],vI (p2),Value.func (.func 53) #[] #[]]) (fun a20=>qR U p0 p1 p2 p3 p4 p5 a20=some r) (fun a20 b21=>Value.agg #[vP b21.1,b21.2.1,vI (p2),vU (a20.1),Value.func (.func 53) #[] #[]]) (fun a20 b21=>[Ar iV b21.2.1 a20.2.1,bM b21.1 [vS (p0.1),v0,v1,vP b21.2.2.1,b21.2.2.2.1] 140,Ar c_.raw b21.2.2.2.1 b21.2.2.2.2.1,jK bT b21.2.2.2.2.1 a20.2.2.1,bM b21.2.2.1 [vS (p0.1),v0,v1,v2,v3,vI (a20.2.2.2.1),b21.2.2.2.2.2.1] 178,Ar c_.raw b21.2.2.2.2.2.1 b21.2.2.2.2.2.2,jK bU b21.2.2.2.2.2.2 a20.2.2.2.2,bM b3 Bv 44]) (fun a20 b21=>[Sl aJ v0 p0.2.1,Sl aF v1 p0.2.2,PF (Value.agg #[vS p0.1,v0,v1]),Sl bL v2 p1.1,S2 aW v3 z4 p1.2,S2 bL v5 z6 p3,Sl xN v7 p5,Gb 0 (cellsOf Fg uU)]) (tH.fn (show aP Tryz.prog 52 from Tryz.call52) rfl) Tryz.func52 rfl Tryz.ntmps52 rfl rfl ?_ ?_
 ·refine sqR<|aE (aI.box (cs:=[vS (p0.1),v0,v1]) rfl rfl) rfl fun b155=>aE (aI.box (cs:=[v2,v3]) rfl rfl) rfl fun b156=>aE (aI.alloc (cs:=VX) rfl rfl) rfl fun b157=>dtN<|aH ?_
  refine JR.start [0,0,3,0,15,0,0,95,0,511,1023] 9 mixedOrders (by decide +kernel) ?_
  refine JR.open (by exact rfl) ?_
  refine jkLdA 2 rfl<|jkLdA 1 rfl<|MW (A:=dZ×Int×a_) (B:=Nat×Nat×Value×List Value×Value×List Value) (vs:=[Value.agg #[vS (p0.1),v0,v1],Value.agg #[v2,v3]]) (fun a167=>mK U p0 p1 p2 p3 p4 p5 a167=some r) (fun a167 b168=>vP b168.1) (fun a167 b168=>[bM b168.1 [vS (p0.1),v0,v1,vP b168.2.1,b168.2.2.1] 140,Ar c_.raw b168.2.2.1 b168.2.2.2.1,jK bT b168.2.2.2.1 a167.1,bM b168.2.1 [vS (p0.1),v0,v1,v2,v3,vI (a167.2.1),b168.2.2.2.2.1] 178,Ar c_.raw b168.2.2.2.2.1 b168.2.2.2.2.2,jK bU b168.2.2.2.2.2 a167.2.2,bM b157 VX 97,bM b156 [v2,v3] 28,bM b155 [vS (p0.1),v0,v1] 33,bM b3 Bv 44]) (fun a167 b168=>[Sl aJ v0 p0.2.1,Sl aF v1 p0.2.2,PF (Value.agg #[vS p0.1,v0,v1]),Sl bL v2 p1.1,S2 aW v3 z4 p1.2,S2 bL v5 z6 p3,Sl xN v7 p5,Gb 0 (cellsOf Fg uU)]) rfl rfl rfl (tH.fn (show aP Tryz.prog 56 from Tryz.call56) rfl) Tryz.func56 rfl Tryz.ntmps56 rfl rfl (fun _ _=>(n_ [] rfl)) ?_ ?_
  ·refine sqR<|aE (aI.box (cs:=[vS (p0.1),v0,v1]) rfl rfl) rfl fun b177=>aE (aI.box (cs:=[v2,v3]) rfl rfl) rfl fun b178=>qkAsg rfl<|dtN<|aH ?_
   refine JR.start [0,0,0,6,0,0,62,127,255,511] 7 mixedOrders (by decide +kernel) ?_
   refine JR.open (by exact rfl) ?_
   refine jkLdA 1 rfl<|jkLdA 1 rfl<|jkLdA 0 rfl<|MW (A:=Int×a_) (B:=Nat×Value×List Value) (vs:=[Value.agg #[vS (p0.1),v0,v1],Value.agg #[v2,v3]]) (fun a184=>mL U p0 p1 p2 p3 p4 p5 a184=some r) (fun a184 b185=>vP b185.1) (fun a184 b185=>[bM b185.1 [vS (p0.1),v0,v1,v2,v3,vI (a184.1),b185.2.1] 178,Ar c_.raw b185.2.1 b185.2.2,jK bU b185.2.2 a184.2,bM b178 [v2,v3] 28,bM b177 [vS (p0.1),v0,v1] 33,bM b157 VX 97,bM b156 [v2,v3] 28,bM b155 [vS (p0.1),v0,v1] 33,bM b3 Bv 44]) (fun a184 b185=>[Sl aJ v0 p0.2.1,Sl aF v1 p0.2.2,PF (Value.agg #[vS p0.1,v0,v1]),Sl bL v2 p1.1,S2 aW v3 z4 p1.2,S2 bL v5 z6 p3,Sl xN v7 p5,Gb 0 (cellsOf Fg uU)]) rfl rfl rfl (tH.fn (show aP Tryz.prog 84 from Tryz.call84) rfl) Tryz.func84 rfl Tryz.ntmps84 rfl rfl (fun _ _=>(n_ [([4],[])] rfl)) ?_ ?_
   ·refine sqR<|aE (aI.box (cs:=[vS (p0.1),v0,v1]) rfl rfl) rfl fun b191=>aE (aI.box (cs:=[v2,v3]) rfl rfl) rfl fun b192=>qkAsg rfl<|dtN<|aH ?_
    refine JR.start [0,0,0,4,12,28,63,127,255] 6 mixedOrders (by decide +kernel) ?_
    refine JR.open (by exact rfl) ?_
    refine jkLdA 1 rfl<|jkLdA 0 rfl<|jkFld rfl<|jkLd 0 rfl<|bG rfl .nil (mC 4 rfl) (hZ rfl (aC.fact 0 rfl) rfl) aK.z<|ckE h fun j193 h=>JR.stp (uM bU (Int.toNat (List.length p1.2:Int)))<|JR.loud rfl rfl rfl (pI (e:=c_.raw) (lX) rfl rfl rfl rfl j193 rfl rfl rfl) rfl (fun u194=>(n_ [([2],[]),([3],[])] rfl)) fun u194=>bN 6 rfl rfl<|bV (Know.one (aC.sl (bA (i:=0) (j:=1) rfl rfl cH))) fun ho195=>?_
    refine aB (Qn (r:=Value.agg #[vS (p0.1),v0,v1,v2,v3,vI (0:Int),u194]) rfl rfl rfl (by intro w;simp[Instr.build,Instr.fill,dU,cX,cK,dV,dW,cY,eP,iS ho195])) rfl ?_
    refine aE (aI.box (cs:=[vS (p0.1),v0,v1,v2,v3,vI (0:Int),u194]) rfl rfl) rfl fun b196=>qkAsg rfl<|dtN<|aH<|midL (B:=gH) (fun a200=>jZ U p0 p1 p2 p3 p4 p5 a200=some r) (fun a200 b201=>[(5,vP b196)]) (fun a200 b201=>[bM b196 [vS (p0.1),v0,v1,v2,v3,vI (a200.1),u194] 178,Ar c_.raw u194 b201,jK bU b201 a200.2,bM b178 [v2,v3] 28,bM b177 [vS (p0.1),v0,v1] 33,bM b157 VX 97,bM b156 [v2,v3] 28,bM b155 [vS (p0.1),v0,v1] 33,bM b3 Bv 44]) ?_ ?_
    ·refine sqR<|qkFld rfl<|qkLd 3 rfl<|aB (hZ rfl (aC.fact 4 rfl) rfl) rfl<|qkMove rfl<|dtN<|aN<|loopL (B:=gH) (eF U p0 p1 p2 p3 p4 p5) (fun a207 b208=>[(3,vP b192),(5,vP b196),(19,v3),(20,vI (List.length p1.2:Int)),(21,vI (a207.1))]) (fun a207 b208=>[bM b196 [vS (p0.1),v0,v1,v2,v3,vI (a207.2.1),u194] 178,Ar c_.raw u194 b208,jK bU b208 a207.2.2,bM b192 [v2,v3] 28,bM b178 [v2,v3] 28,bM b177 [vS (p0.1),v0,v1] 33,bM b157 VX 97,bM b156 [v2,v3] 28,bM b155 [vS (p0.1),v0,v1] 33,bM b3 Bv 44]) ((0:Int),(0:Int),(List.replicate (Int.toNat (List.length p1.2:Int)) ([]:aL))) (List.replicate (Int.toNat (List.length p1.2:Int)) (lX)) h SF (aT.ix [0,1,2,3,5,6,7,8,9,10] rfl rfl) ?_
     intro k209 a207 b208 h
     refine sqR<|qkLss rfl<|dtN<|aH ?_
     refine eD h rfl (fun h=>?_) fun h=>?_
     ·refine cG<|aH<|midL (B:=gH) (fun a213=>mM p1 a207 (bD (eF U p0 p1 p2 p3 p4 p5) k209) a213=some r) (fun a213 b214=>[(3,vP b192),(5,vP b196),(19,v3),(20,vI (List.length p1.2:Int)),(21,vI (a207.1))]) (fun a213 b214=>[bM b196 [vS (p0.1),v0,v1,v2,v3,vI (max a207.2.1 (at' p1.1 a207.1)),u194] 178,Ar c_.raw u194 b214,jK bU b214 a213,bM b192 [v2,v3] 28,bM b178 [v2,v3] 28,bM b177 [vS (p0.1),v0,v1] 33,bM b157 VX 97,bM b156 [v2,v3] 28,bM b155 [vS (p0.1),v0,v1] 33,bM b3 Bv 44]) ?_ ?_
      ·refine aN<|sqR<|qkMove rfl<|ckE h fun j215 h=>aB (cI rfl rfl (aC.fact 4 rfl) rfl rfl j215) rfl<|aB (cJ rfl (aC.fact 4 rfl) rfl rfl j215) rfl<|qkAsg rfl<|qkAsg rfl<|dtN<|aH ?_
       refine JR.start [0,0,2,6,14,0,32,0,224,480,1022,2047,4095,8191] 11 mixedOrders (by decide +kernel) ?_
       refine JR.open (by exact rfl) ?_
       refine jkMove rfl<|jkMove rfl<|jqN rfl (bO rfl)<|jkFld rfl<|jkLd 0 rfl<|jkFld rfl<|jkLd 3 rfl<|jkMove rfl<|ckE h fun j216 h=>bG rfl .nil (mC 3 rfl) (aY rfl rfl (aC.fact 0 rfl) rfl rfl j216) aK.z<|bG rfl .nil (mC 3 rfl) (bR rfl (aC.fact 0 rfl) rfl rfl rfl dN j216) aK.z<|jqN rfl (JY rfl rfl)<|bN 11 rfl rfl<|aB (bO rfl) rfl<|qkFld rfl<|eR 0 rfl rfl rfl rfl rfl rfl<|dtN<|sqR<|qkMove rfl<|aB (fI rfl (aC.el (aC.fact 4 rfl) j215.1 j215.2) rfl) rfl<|qkMove rfl<|dtN<|aN<|loopL (B:=gH) (gU U p1 a207 (bD (eF U p0 p1 p2 p3 p4 p5) k209)) (fun a221 b222=>[(3,vP b192),(5,vP b196),(6,vI (a207.1)),(19,v3),(20,vI (List.length p1.2:Int)),(21,vI (a207.1)),(39,(at' z4 a207.1).1),(40,vI (List.length (at' p1.2 a207.1):Int)),(41,vI (a221.1))]) (fun a221 b222=>[bM b196 [vS (p0.1),v0,v1,v2,v3,vI (max a207.2.1 (at' p1.1 a207.1)),u194] 178,Ar c_.raw u194 b222,jK bU b222 a221.2,bM b192 [v2,v3] 28,bM b178 [v2,v3] 28,bM b177 [vS (p0.1),v0,v1] 33,bM b157 VX 97,bM b156 [v2,v3] 28,bM b155 [vS (p0.1),v0,v1] 33,bM b3 Bv 44]) ((0:Int),a207.2.2) (b208) h SF (aT.refl _) ?_
       intro k223 a221 b222 h
       refine sqR<|qkLss rfl<|dtN<|aH ?_
       refine eD h rfl (fun h=>?_) fun h=>?_
       ·refine cG<|aH<|aN<|sqR<|ckE h fun j225 h=>aB (aY rfl rfl (aC.el (aC.fact 4 rfl) j215.1 j215.2) rfl rfl j225) rfl<|aB (fR (cs:=[vI ((at' (at' p1.2 a207.1) a221.1).1),vI ((at' (at' p1.2 a207.1) a221.1).2)]) rfl (aC.el (aC.fact 4 rfl) j215.1 j215.2) bK rfl rfl rfl rfl j225) rfl<|aE (aI.alloc (cs:=MM) rfl rfl) rfl fun b226=>bF 0 (vs:=[vI ((at' (at' p1.2 a207.1) a221.1).1),vI ((at' (at' p1.2 a207.1) a221.1).2)]) rfl rfl rfl rfl rfl rfl<|dtN ?_
        refine JR.start [0,1,3,7,0,0,32,96,224,0,992,2016,0,0,8192,0,61440,126976,262112,524287,1048575] 19 mixedOrders (by decide +kernel) ?_
        refine JR.open (by exact rfl) ?_
        refine jkMove rfl<|jqN rfl (bO rfl)<|jkFld rfl<|jkLd 1 rfl<|jkMove rfl<|jkMove rfl<|jqN rfl (bO rfl)<|jkFld rfl<|jkLd 1 rfl<|jkMove rfl<|ckE h fun j227 h=>bS (cC 3 rfl) fun hl228=>?_
        refine bG rfl (aT.cons 2 rfl .nil) .nil (fV 0 rfl rfl rfl rfl rfl j227.1 (by have q1:=j227.2;have q2:=hl228;(try simp only[List.length_set]at q1);(try simp only[List.length_set]at q2);(try simp only[List.length_set]);omega)) aK.z ?_
        refine bS (cC 3 rfl) fun hl229=>bG rfl (aT.cons 2 rfl .nil) .nil (kF 0 rfl rfl hl229 rfl rfl j227) aK.z<|jkLdA 4 rfl<|jkFld rfl<|jkLd 0 rfl<|jkMove rfl<|bnE h fun r230 w231 h=>JR.loud rfl rfl rfl (aI.callQ TW (Gy U v2 v3 z4 r230 w231) rfl (nE [3,4] rfl)) rfl (fun x232=>(n_ [([2],[]),([2],[]),([1],[]),([1],[])] rfl)) fun x232=>JR.loud rfl rfl rfl (bZ (e:=bU) ([r230]) [(0,vI (r230))] rfl rfl rfl rfl (nA (vI (r230)) rfl) rfl rfl rfl) rfl (fun u233=>(n_ [([3],[]),([3],[]),([2],[]),([2],[])] rfl)) fun u233=>ckE h fun j235 h=>JR.loud rfl rfl rfl (nZ 4 cH rfl rfl rfl (aR (aC.res 0 rfl) cH) rfl rfl rfl rfl j227 j235 rfl) rfl (fun u234=>(n_ [([2],[])] rfl)) fun u234=>bN 19 rfl rfl<|ckE h fun j236 h=>bV (cC 4 rfl) fun hl237=>?_
        refine aB (fV 3 rfl rfl rfl rfl rfl j236.1 (by have q1:=j236.2;have q2:=hl237;(try simp only[List.length_set]at q1);(try simp only[List.length_set]at q2);(try simp only[List.length_set]);omega)) rfl ?_
        refine bV (w_ 4 (k:=a207.1) rfl ⟨j236.1,by first|exact j236.2|simpa using j236.2⟩) fun ho238=>?_
        refine nN 3 4 ⟨j236.1,by first|exact j236.2|simpa using j236.2⟩ rfl rfl rfl rfl rfl (by simp) ho238 rfl ?_
        refine dY<|inT<|aM<|qkAdd rfl<|qkMove rfl<|dtN ?_
        exact mO ((wI .i64 (a221.1+(1:Int))),(List.set a221.2 (Int.toNat a207.1) ((at' a221.2 a207.1)++[r230]))) (List.set b222 (Int.toNat a207.1) u234) h SF (aT.ix [2,3,4,5,6,7,8,9,10,11] rfl rfl) (aD.refl _ _)
       refine pG<|dR<|dR<|uK<|inT ?_
       exact jA (a221.2) (b222) h SF rfl
      intro a213 b214 h
      unfold mM at h
      refine aM<|qkAdd rfl<|qkMove rfl<|dtN ?_
      exact yB ((wI .i64 (a207.1+(1:Int))),(max a207.2.1 (at' p1.1 a207.1)),a213) (b214) h SF rfl
     refine Go.Sx.vT ?_
     exact cE (a207.2.1,a207.2.2) (b208) h SF (aT.ix [0,1,2,4,5,6,7,8,9] rfl rfl) (aD.refl _ _)
    intro a200 b201 h
    unfold jZ at h
    refine sqR<|qkMove rfl<|qkAsg rfl<|dtN<|aQ ?_
    exact uW (a200.1,a200.2) (b196,u194,b201) h (.inl rfl) (Dt.r1 rfl (RV.tmp rfl)) rfl (aT.refl _) (aD.refl _ _)
   intro a184 b185 h
   unfold mL at h
   refine bG rfl (aT.cons 4 rfl .nil) .nil (nO 0 rfl rfl rfl rfl) (aK.h (aT.ix [1] rfl rfl) .nil aK.z)<|bG rfl (aT.cons 3 rfl .nil) .nil (nO 0 rfl rfl rfl rfl) (aK.h (aT.ix [0] rfl rfl) .nil aK.z)<|bnE h fun r186 w187 h=>JR.loud rfl rfl rfl (aI.callQ QG (AL U v0 v1 v2 v3 z4 r186 w187) rfl (nE [0,1,2,3,4] rfl)) rfl (fun x188=>(n_ [([6],[])] rfl)) fun x188=>bN 7 rfl rfl<|bV (Know.one (aC.sl (bA (i:=0) (j:=1) rfl rfl bK))) fun ho189=>?_
   refine aB (Qn (r:=Value.agg #[vS (p0.1),v0,v1,Value.pointer (some ⟨b185.1,0,none⟩),x188.1]) rfl rfl rfl (by intro w;simp[Instr.build,Instr.fill,dU,cX,cK,dV,dW,cY,eP,iS ho189])) rfl ?_
   refine aE (aI.box (cs:=[vS (p0.1),v0,v1,vP b185.1,x188.1]) rfl rfl) rfl fun b190=>qkAsg rfl<|dtN<|aQ ?_
   exact uW (r186,a184.1,a184.2) (b190,b185.1,x188.1,x188.2,b185.2.1,b185.2.2) h (.inl rfl) (Dt.r1 rfl (RV.tmp rfl)) rfl (aT.ix [0,1,2,3,4,5,8,9,10,11] rfl rfl) (aD.refl _ _)
  intro a167 b168 h
  unfold mK at h
  refine bG rfl (aT.cons 7 rfl .nil) .nil (nO 0 rfl rfl rfl rfl) (aK.h (aT.ix [1] rfl rfl) .nil aK.z)<|bnE h fun r169 w170 h=>JR.loud rfl rfl rfl (aI.callQ WK (EA U v2 v3 z4 r169 w170) rfl (nE [3,4] rfl)) rfl (fun x171=>(n_ [] rfl)) fun x171=>jqN rfl (jS rfl)<|bG rfl (aT.cons 8 rfl .nil) .nil (nO 0 rfl rfl rfl rfl) (aK.h (aT.ix [7] rfl rfl) .nil (aK.h (aT.ix [1] rfl rfl) .nil aK.z))<|bnE h fun r172 w173 h=>JR.loud rfl rfl rfl (aI.callQ WA (KY U v2 v3 z4 r172 w173) rfl (nE [3,4] rfl)) rfl (fun x174=>(n_ [] rfl)) fun x174=>jqN rfl (jS rfl)<|bN 9 rfl rfl<|bV (Know.one ((aR (aC.res 0 rfl) jU))) fun ho175=>?_
  refine aB (Y.bld5 (r:=Value.agg #[Value.pointer (some ⟨b168.1,0,none⟩),x171,vI (p2),vU (r172),Value.func (.func 53) #[] #[]]) rfl rfl rfl rfl rfl (by intro w;simp[Instr.build,Instr.fill,dU,cX,cK,dV,dW,cY,eP,iS ho175])) rfl ?_
  refine bV (Know.one ((aR (aC.res 0 rfl) jU))) fun ho176=>bF 7 (vs:=[vP b168.1,x171,vI (p2),vU (r172),Value.func (.func 53) #[] #[]]) rfl rfl (cM rfl (cM ho176 (cM rfl (cM rfl (cM rfl rfl))))) rfl rfl rfl<|dtN<|aQ ?_
  exact uW (r172,r169,a167.1,a167.2.1,a167.2.2) (b168.1,x171,b168.2.1,b168.2.2.1,b168.2.2.2.1,b168.2.2.2.2.1,b168.2.2.2.2.2) h (.inl rfl) (Dt.r1 rfl (RV.cell 7 rfl rfl rfl rfl)) rfl (aT.ix [0,1,2,3,4,5,6,10] rfl rfl) (aD.refl _ _)
 intro a20 b21 h
 refine aE (aI.alloc (cs:=VX) rfl rfl) rfl fun b22=>bV (Know.one ((aR (aC.res 1 rfl) jU))) fun ho23=>bF 0 (vs:=[vP b21.1,b21.2.1,vI (p2),vU (a20.1),Value.func (.func 53) #[] #[]]) rfl rfl (cM rfl (cM ho23 (cM rfl (cM rfl (cM rfl rfl))))) rfl rfl rfl<|dtN<|sqR<|qkMove rfl<|qkFld rfl<|eR 0 rfl rfl rfl rfl rfl rfl<|dtN<|sqR<|qkLdA 0 rfl<|qkMove rfl<|qkMove rfl<|yR (A:=GJ) (B:=NZ) (vs:=[Value.agg #[vP b21.1,b21.2.1,vI (p2),vU (p4),Value.func (.func 53) #[] #[]],v5,v7]) (fun a37=>qS  a37=some r) (fun a37 b38=>Value.tuple #[Value.agg #[b38.1,b38.2.1,b38.2.2.1,vI (a37.1),vI (a37.2.1),vI (a37.2.2.1),vI (a37.2.2.2.1),vU (a37.2.2.2.2.1)],vI (a37.2.2.2.2.2.1)]) (fun a37 b38=>[bM b3 Bv 44,Ar iV b38.1 a37.2.2.2.2.2.2.1,Ar iV b38.2.1 a37.2.2.2.2.2.2.2.1,Ar c_.raw b38.2.2.1 b38.2.2.2,jK bU b38.2.2.2 a37.2.2.2.2.2.2.2.2]) (fun a37 b38=>[Sl aJ v0 p0.2.1,Sl aF v1 p0.2.2,PF (Value.agg #[vS p0.1,v0,v1]),Sl bL v2 p1.1,S2 aW v3 z4 p1.2,S2 bL v5 z6 p3,Sl xN v7 p5,Gb 0 (cellsOf Fg uU)]) (tH.fn (show aP Tryz.prog 54 from Tryz.call54) rfl) Tryz.func54 rfl Tryz.ntmps54 rfl rfl ?_ ?_
 ·refine sqR<|aE (aI.box (cs:=[vP b21.1,b21.2.1,vI (p2),vU (p4),Value.func (.func 53) #[] #[]]) rfl rfl) rfl fun b42=>bV (Know.one ((aC.fact 6 rfl))) fun ho44=>?_
  refine aE (aI.box (cs:=[v7]) rfl (by rw[iS ho44])) rfl fun b43=>?_
  refine aE (aI.alloc (cs:=Bv) rfl rfl) rfl fun b45=>qkAsg rfl<|dtN<|sqR<|qkLdA 2 rfl<|qkMove rfl<|qkLd 1 rfl<|qkLen (aC.fact 6 rfl) rfl<|aB (tQ (cs:=[.tmp 3,.tmp 5]) (vs:=[vP b42,vP b43]) rfl) rfl<|yR (A:=aL×aL×a_×Int×Int×Int×Int×Int×Int) (B:=NZ) (vs:=[Value.agg #[vP b21.1,b21.2.1,vI (p2),vU (p4),Value.func (.func 53) #[] #[]],v5,vI (List.length p5:Int),Value.func (.func 82) #[] #[vP b42,vP b43]]) (fun a59=>mJ  a59=some r) (fun a59 b60=>Value.tuple #[Value.agg #[b60.1,b60.2.1,b60.2.2.1,vI (a59.2.2.2.1),vI (a59.2.2.2.2.1),vI (a59.2.2.2.2.2.1),vI (a59.2.2.2.2.2.2.1),vU (a59.2.2.2.2.2.2.2.1)],vI (a59.2.2.2.2.2.2.2.2)]) (fun a59 b60=>[bM b45 Bv 44,bM b3 Bv 44,Ar iV b60.1 a59.1,Ar iV b60.2.1 a59.2.1,Ar c_.raw b60.2.2.1 b60.2.2.2,jK bU b60.2.2.2 a59.2.2.1]) (fun a59 b60=>[Sl aJ v0 p0.2.1,Sl aF v1 p0.2.2,PF (Value.agg #[vS p0.1,v0,v1]),Sl bL v2 p1.1,S2 aW v3 z4 p1.2,S2 bL v5 z6 p3,Sl xN v7 p5,Gb 0 (cellsOf Fg uU)]) (tH.fn (show aP Tryz.prog 81 from Tryz.call81) rfl) Tryz.func81 rfl Tryz.ntmps81 rfl rfl ?_ ?_
  ·refine sqR<|aE (aI.box (cs:=[vP b21.1,b21.2.1,vI (p2),vU (p4),Value.func (.func 53) #[] #[]]) rfl rfl) rfl fun b64=>aE (aI.alloc (cs:=Bv) rfl rfl) rfl fun b65=>qkAsg rfl<|dtN<|sqR<|aE (aI.alloc (cs:=Bv) rfl rfl) rfl fun b66=>dtN<|sqR<|qkMove rfl<|bnE h fun r67 w68 h=>aE (aI.callQ Nb (BJ U v5 z6 r67 w68) rfl (nE [5] rfl)) rfl fun x69=>qkAsg rfl<|dtN<|aH ?_
   refine JR.start [0,1,0,7,0,16,63,127] 6 mixedOrders (by decide +kernel) ?_
   refine JR.open (by exact rfl) ?_
   refine jkFld rfl<|jkLd 4 rfl<|jkMove rfl<|bnE h fun r70 w71 h=>JR.loud rfl rfl rfl (aI.callQ QF (sI U b21.1 v0 v1 b21.2.2.1 v0 v1 v2 v3 z4 b21.2.2.2.2.2.1 (List.zip b21.2.2.2.2.2.2 a20.2.2.2.2) b21.2.2.2.1 (List.zip b21.2.2.2.2.1 a20.2.2.1) x69.1 (List.zip x69.2 r67) r70 w71) rfl (aD.cons (aC.res 10 rfl) (aD.cons (aC.fact 0 rfl) (aD.cons (aC.fact 1 rfl) (aD.cons (aC.res 13 rfl) (aD.cons (aC.fact 0 rfl) (aD.cons (aC.fact 1 rfl) (aD.cons (aC.fact 3 rfl) (aD.cons (aC.fact 4 rfl) (aD.cons (bA (i:=14) (j:=15) rfl rfl cH) (aD.cons (bA (i:=11) (j:=12) rfl rfl bK) (aD.cons (bA (i:=0) (j:=1) rfl rfl cH) .nil)))))))))))) rfl (fun x72=>(n_ [] rfl)) fun x72=>jqN rfl (cP rfl rfl rfl rfl rfl)<|bG rfl (aT.cons 4 rfl .nil) .nil (dD 0 rfl rfl rfl rfl rfl) (aK.h (aT.ix [4] rfl rfl) .nil aK.z)<|bN 6 rfl rfl<|qkAnd rfl<|qkAsg rfl<|dtN<|sqR<|qkMove rfl<|bnE h fun r73 w74 h=>aE (aI.callQ TS (Ey U  r73 w74) rfl .nil) rfl fun x75=>aE (aI.alloc (cs:=SS) rfl rfl) rfl fun b76=>bF 0 (vs:=[vI (r73.1),vI (r73.2.1),vI (r73.2.2.1),vI (r73.2.2.2.1),vU (r73.2.2.2.2)]) rfl rfl rfl rfl rfl rfl<|dtN<|sqR<|qkFld rfl<|qkLd 5 rfl<|qkMove rfl<|qkMove rfl<|qkLdA 0 rfl<|bnE h fun r77 w78 h=>aE (pH (vs:=[x69.1,vU (cQ .u32 r70 p4),Value.agg #[vI (r73.1),vI (r73.2.1),vI (r73.2.2.1),vI (r73.2.2.2.1),vU (r73.2.2.2.2)]]) (cs:=[]) QE rfl (Dj U x69.1 (List.zip x69.2 r67) r77 w78) rfl (aD.cons (bA (i:=1) (j:=2) rfl rfl cH) .nil) (fun _ _=>rfl)) rfl fun x79=>dtN<|sqR<|qkFld rfl<|qkLd 3 rfl<|qkMove rfl<|aE (bZ (e:=iV) ([(cQ .u32 r70 p4)]) [(0,vU (cQ .u32 r70 p4))] rfl rfl rfl rfl (nA (vU (cQ .u32 r70 p4)) rfl) rfl rfl rfl) rfl fun u80=>jM (iI iV)<|ckE h fun j82 h=>aE (fP 0 jU rfl rfl rfl (aR (aC.res 1 rfl) jU) rfl rfl rfl rfl j82 rfl) rfl fun u81=>qkFld rfl<|bV (Know.one ((aR (aC.res 0 rfl) jU))) fun ho83=>eR 5 rfl rfl ho83 rfl rfl rfl<|dtN<|aH<|midL (B:=Value×List Value×Value×Value) (fun a96=>jY  a96=some r) (fun a96 b97=>[(1,b97.1),(8,vP b65),(10,vP b66),(12,vP b76)]) (fun a96 b97=>[Ar iV b97.2.2.2 a96.1,bM b76 [vI (a96.2.1),vI (a96.2.2.1),vI (a96.2.2.2.1),vI (a96.2.2.2.2.1),vU (a96.2.2.2.2.2.1)] 42,Ar c_.raw b97.1 b97.2.1,jK bU b97.2.1 a96.2.2.2.2.2.2.1,bM b66 [b97.2.2.1,b97.2.2.2,lX,vI (0:Int),vI (0:Int),vI (0:Int),vI (0:Int),vU (0:Int)] 44,bM b65 Bv 44,bM b45 Bv 44,bM b3 Bv 44,Ar iV b97.2.2.1 a96.2.2.2.2.2.2.2]) ?_ ?_
   ·refine sqR<|qkMove rfl<|qkMove rfl<|dtN<|aN<|jM (iI iV)<|loopL (B:=Value×List Value×Value×Value) (j_ U p0 p1 p2 p4 p5 a20) (fun a119 b120=>[(1,b120.1),(3,Value.func (.func 82) #[] #[vP b42,vP b43]),(4,vP b64),(8,vP b65),(10,vP b66),(11,vU (a119.1)),(12,vP b76),(39,vI (List.length p5:Int)),(40,vI (a119.2.2.1))]) (fun a119 b120=>[Ar iV b120.2.2.2 a119.2.1,bM b76 [vI (a119.2.2.2.1),vI (a119.2.2.2.2.1),vI (a119.2.2.2.2.2.1),vI (a119.2.2.2.2.2.2.1),vU (a119.2.2.2.2.2.2.2.1)] 42,Ar c_.raw b120.1 b120.2.1,jK bU b120.2.1 a119.2.2.2.2.2.2.2.2.1,bM b66 [b120.2.2.1,b120.2.2.2,lX,vI (0:Int),vI (0:Int),vI (0:Int),vI (0:Int),vU (0:Int)] 44,bM b65 Bv 44,bM b64 [vP b21.1,b21.2.1,vI (p2),vU (p4),Value.func (.func 53) #[] #[]] 97,bM b45 Bv 44,bM b43 [v7] 40,bM b42 [vP b21.1,b21.2.1,vI (p2),vU (p4),Value.func (.func 53) #[] #[]] 97,Ar iV b21.2.1 a20.2.1,bM b21.1 [vS (p0.1),v0,v1,vP b21.2.2.1,b21.2.2.2.1] 140,Ar c_.raw b21.2.2.2.1 b21.2.2.2.2.1,jK bT b21.2.2.2.2.1 a20.2.2.1,bM b21.2.2.1 [vS (p0.1),v0,v1,v2,v3,vI (a20.2.2.2.1),b21.2.2.2.2.2.1] 178,Ar c_.raw b21.2.2.2.2.2.1 b21.2.2.2.2.2.2,jK bU b21.2.2.2.2.2.2 a20.2.2.2.2,bM b3 Bv 44,Ar iV b120.2.2.1 a119.2.2.2.2.2.2.2.2.2]) ((cQ .u32 r70 p4),(([]:aL)++([(cQ .u32 r70 p4)])),(0:Int),r73.1,r73.2.1,r73.2.2.1,r73.2.2.2.1,r73.2.2.2.2,r67,([]:aL)) (x69.1,x69.2,(lX),u81) h SF (aT.ix [1,3,4,5,6,7,8,9,10,11,13,14,15,16,17,18,19,20,0] rfl rfl) ?_
    intro k121 a119 b120 h
    refine sqR<|qkLss rfl<|dtN<|aH ?_
    refine eD h rfl (fun h=>?_) fun h=>?_
    ·refine cG<|aH<|aN<|sqR<|qkMove rfl<|qkAsg rfl<|dtN<|sqR<|qkMove rfl<|qkMove rfl<|qkMove rfl<|yR (A:=Int) (B:=Unit) (vs:=[vI (a119.2.2.1),vU (a119.1),vP b42,vP b43]) (fun a124=>qT U p0 p1 p2 p4 a20 a119 (bD (j_ U p0 p1 p2 p4 p5 a20) k121) a124=some r) (fun a124 b125=>Value.tuple #[vU (a124),vB (decide (a119.1≠(0:Int)))]) (fun a124 b125=>[Ar iV b120.2.2.2 a119.2.1,bM b76 [vI (a119.2.2.2.1),vI (a119.2.2.2.2.1),vI (a119.2.2.2.2.2.1),vI (a119.2.2.2.2.2.2.1),vU (a119.2.2.2.2.2.2.2.1)] 42,Ar c_.raw b120.1 b120.2.1,jK bU b120.2.1 a119.2.2.2.2.2.2.2.2.1,bM b66 [b120.2.2.1,b120.2.2.2,lX,vI (0:Int),vI (0:Int),vI (0:Int),vI (0:Int),vU (0:Int)] 44,bM b65 Bv 44,bM b64 [vP b21.1,b21.2.1,vI (p2),vU (p4),Value.func (.func 53) #[] #[]] 97,bM b45 Bv 44,bM b43 [v7] 40,bM b42 [vP b21.1,b21.2.1,vI (p2),vU (p4),Value.func (.func 53) #[] #[]] 97,Ar iV b21.2.1 a20.2.1,bM b21.1 [vS (p0.1),v0,v1,vP b21.2.2.1,b21.2.2.2.1] 140,Ar c_.raw b21.2.2.2.1 b21.2.2.2.2.1,jK bT b21.2.2.2.2.1 a20.2.2.1,bM b21.2.2.1 [vS (p0.1),v0,v1,v2,v3,vI (a20.2.2.2.1),b21.2.2.2.2.2.1] 178,Ar c_.raw b21.2.2.2.2.2.1 b21.2.2.2.2.2.2,jK bU b21.2.2.2.2.2.2 a20.2.2.2.2,bM b3 Bv 44,Ar iV b120.2.2.1 a119.2.2.2.2.2.2.2.2.2]) (fun a124 b125=>[Sl aJ v0 p0.2.1,Sl aF v1 p0.2.2,PF (Value.agg #[vS p0.1,v0,v1]),Sl bL v2 p1.1,S2 aW v3 z4 p1.2,S2 bL v5 z6 p3,Sl xN v7 p5,Gb 0 (cellsOf Fg uU)]) (Ol (us:=[vI (a119.2.2.1),vU (a119.1)]) (cs:=[vP b42,vP b43]) (show aP Tryz.prog 82 from Tryz.call82) rfl rfl rfl) Tryz.func82 rfl Tryz.ntmps82 rfl rfl ?_ ?_
     ·refine sqR<|qkAsg rfl<|qkAsg rfl<|dtN<|aH ?_
      refine JR.start [0,1,0,4,0,0,0,96,224,511,0,1024,1023,8191] 13 mixedOrders (by decide +kernel) ?_
      refine JR.open (by exact rfl) ?_
      refine jkFld rfl<|jkLd 9 rfl<|jkFld rfl<|jkLd 9 rfl<|jkMove rfl<|jkLd 8 rfl<|jkMove rfl<|ckE h fun j151 h=>bG rfl .nil (mC 6 rfl) (aY rfl rfl (aC.fact 0 rfl) rfl rfl j151) aK.z<|bG rfl .nil (mC 6 rfl) (bR rfl (aC.fact 0 rfl) rfl rfl rfl BR j151) aK.z<|bnE h fun r152 w153 h=>JR.loud rfl rfl rfl (aI.callQ WL (zO U b21.2.1 r152 w153) rfl (aD.cons (aR (aC.res 10 rfl) jU) (nE [7] rfl))) rfl (fun x154=>(n_ [] rfl)) fun x154=>jqN rfl (jS rfl)<|jqN rfl (Bz rfl rfl)<|jqN rfl (sP rfl)<|bN 13 rfl rfl<|qkAsg rfl<|dtN<|aQ ?_
      exact uW (r152) () h (.inl rfl) (Dt.r2 rfl (RV.tmp rfl) (RV.tmp rfl)) rfl (aT.refl _) (aD.refl _ _)
     intro a124 b125 h
     refine qkMove rfl<|qkExt rfl<|qkExt rfl<|qkAsg rfl<|qkAsg rfl<|dtN<|aH<|sqR<|qkMove rfl<|aB (Wm rfl) rfl<|dtN ?_
     refine eD h rfl (fun h=>?_) fun h=>?_
     ·refine pG<|dR<|Tq rfl<|dR<|dR<|uK<|wZ ?_
      exact cE (a119.2.1,a119.2.2.2.1,a119.2.2.2.2.1,a119.2.2.2.2.2.1,a119.2.2.2.2.2.2.1,a119.2.2.2.2.2.2.2.1,a119.2.2.2.2.2.2.2.2.1,a119.2.2.2.2.2.2.2.2.2) (b120.1,b120.2.1,b120.2.2.1,b120.2.2.2) h SF (aT.ix [0,1,2,3,4,5,7,17,18] rfl rfl) (aD.refl _ _)
     refine cG<|aH<|sqR<|qkFld rfl<|qkLd 6 rfl<|qkFld rfl<|qkLd 6 rfl<|qkMove rfl<|qkMove rfl<|bnE h fun r127 w128 h=>aE (aI.callQ TT (zN U b21.2.1 r127 w128) rfl (aD.cons (aR (aC.res 10 rfl) jU) (nE [7] rfl))) rfl fun x129=>aB (qY rfl) rfl<|dtN ?_
     refine Ah h rfl (fun _ h=>?_) fun _ h=>?_
     ·refine sqR ?_
      refine aB (Fw (r:=Value.agg #[lX,lX,lX,vI (0:Int),vI (0:Int),vI (0:Int),vI (0:Int),vU (0:Int)]) (by intro w;simp[Instr.build,Instr.fill,dU,cX,cK,dV,dW,cY,eP])) rfl ?_
      refine bF 5 (vs:=Bv) rfl rfl rfl rfl rfl rfl<|qkAsg rfl<|dtN<|aQ<|aG<|bH<|aG<|aG<|bH<|aG<|jM (iI iV)<|jM (iI iV)<|jM (iI c_.raw) (jM (xA bU) ?_)
      exact uW (([]:aL),([]:aL),([]:a_),(0:Int),(0:Int),(0:Int),(0:Int),(0:Int),(11:Int)) ((lX),(lX),(lX),([]:gH)) h (.inl rfl) (Dt.r2 rfl (RV.cell 9 rfl rfl rfl rfl) (RV.tmp rfl)) rfl (aT.ix [11,21,2,3,1,0] rfl rfl) (aD.refl _ _)
     refine cG<|sqR<|qkFld rfl<|qkLd 6 rfl<|qkMove rfl<|qkMove rfl<|bnE h fun r131 w132 h=>aE (aI.callQ TU (AK U b21.1 v0 v1 b21.2.2.1 v0 v1 v2 v3 z4 b21.2.2.2.2.2.1 (List.zip b21.2.2.2.2.2.2 a20.2.2.2.2) b21.2.2.2.1 (List.zip b21.2.2.2.2.1 a20.2.2.1) b120.1 (List.zip b120.2.1 a119.2.2.2.2.2.2.2.2.1) r131 w132) rfl (aD.cons (aC.res 11 rfl) (aD.cons (aC.fact 0 rfl) (aD.cons (aC.fact 1 rfl) (aD.cons (aC.res 14 rfl) (aD.cons (aC.fact 0 rfl) (aD.cons (aC.fact 1 rfl) (aD.cons (aC.fact 3 rfl) (aD.cons (aC.fact 4 rfl) (aD.cons (bA (i:=15) (j:=16) rfl rfl cH) (aD.cons (bA (i:=12) (j:=13) rfl rfl bK) (aD.cons (bA (i:=2) (j:=3) rfl rfl cH) .nil)))))))))))) rfl fun x133=>qkAsg rfl<|dtN<|aH ?_
     refine JR.start [0,1,0,7,0,16,63,127] 6 mixedOrders (by decide +kernel) ?_
     refine JR.open (by exact rfl) ?_
     refine jkFld rfl<|jkLd 8 rfl<|jkMove rfl<|bnE h fun r134 w135 h=>JR.loud rfl rfl rfl (aI.callQ QF (sI U b21.1 v0 v1 b21.2.2.1 v0 v1 v2 v3 z4 b21.2.2.2.2.2.1 (List.zip b21.2.2.2.2.2.2 a20.2.2.2.2) b21.2.2.2.1 (List.zip b21.2.2.2.2.1 a20.2.2.1) x133.1 (List.zip x133.2 r131) r134 w135) rfl (aD.cons (aC.res 13 rfl) (aD.cons (aC.fact 0 rfl) (aD.cons (aC.fact 1 rfl) (aD.cons (aC.res 16 rfl) (aD.cons (aC.fact 0 rfl) (aD.cons (aC.fact 1 rfl) (aD.cons (aC.fact 3 rfl) (aD.cons (aC.fact 4 rfl) (aD.cons (bA (i:=17) (j:=18) rfl rfl cH) (aD.cons (bA (i:=14) (j:=15) rfl rfl bK) (aD.cons (bA (i:=0) (j:=1) rfl rfl cH) .nil)))))))))))) rfl (fun x136=>(n_ [] rfl)) fun x136=>jqN rfl (cP rfl rfl rfl rfl rfl)<|bG rfl (aT.cons 8 rfl .nil) .nil (dD 0 rfl rfl rfl rfl rfl) (aK.h (aT.ix [8] rfl rfl) .nil aK.z)<|bN 6 rfl rfl<|qkAnd rfl<|qkAsg rfl<|dtN<|sqR<|qkLdA 3 rfl<|qkMove rfl<|qkMove rfl<|bnE h fun r137 w138 h=>aE (aI.callQ TV (G_ U  r137 w138) rfl .nil) rfl fun x139=>qkMove rfl<|qkExt rfl<|qkExt rfl<|bF 3 (vs:=[vI (r137.1.1),vI (r137.1.2.1),vI (r137.1.2.2.1),vI (r137.1.2.2.2.1),vU (r137.1.2.2.2.2)]) rfl rfl rfl rfl rfl rfl<|dtN<|sqR<|qkFld rfl<|qkLd 8 rfl<|qkMove rfl<|qkMove rfl<|qkLdA 3 rfl<|bnE h fun r140 w141 h=>aE (pH (vs:=[x133.1,vU (cQ .u32 r134 p4),Value.agg #[vI (r137.1.1),vI (r137.1.2.1),vI (r137.1.2.2.1),vI (r137.1.2.2.2.1),vU (r137.1.2.2.2.2)]]) (cs:=[]) QE rfl (Dj U x133.1 (List.zip x133.2 r131) r140 w141) rfl (aD.cons (bA (i:=0) (j:=1) rfl rfl cH) .nil) (fun _ _=>rfl)) rfl fun x142=>dtN<|sqR<|qkFld rfl<|qkLd 6 rfl<|qkMove rfl<|aE (bZ (e:=iV) ([a124]) [(0,vU (a124))] rfl rfl rfl rfl (nA (vU (a124)) rfl) rfl rfl rfl) rfl fun u143=>ckE h fun j145 h=>aE (fP 21 jU rfl rfl rfl (aR (aC.res 0 rfl) jU) rfl rfl rfl rfl j145 rfl) rfl fun u144=>qkFld rfl<|bV (Know.one ((aR (aC.res 21 rfl) jU))) fun ho146=>eR 7 rfl rfl ho146 rfl rfl rfl<|dtN<|aM<|qkFld rfl<|qkLd 7 rfl<|qkMove rfl<|aE (bZ (e:=iV) ([(cQ .u32 r134 p4)]) [(0,vU (cQ .u32 r134 p4))] rfl rfl rfl rfl (nA (vU (cQ .u32 r134 p4)) rfl) rfl rfl rfl) rfl fun u147=>ckE h fun j149 h=>aE (fP 4 jU rfl rfl rfl (aR (aC.res 0 rfl) jU) rfl rfl rfl rfl j149 rfl) rfl fun u148=>qkFld rfl<|bV (Know.one ((aR (aC.res 4 rfl) jU))) fun ho150=>eR 8 rfl rfl ho150 rfl rfl rfl<|dY<|inT<|aM<|qkAdd rfl<|qkMove rfl<|dtN ?_
     exact mO ((cQ .u32 r134 p4),(a119.2.1++([(cQ .u32 r134 p4)])),(wI .i64 (a119.2.2.1+(1:Int))),r137.1.1,r137.1.2.1,r137.1.2.2.1,r137.1.2.2.2.1,r137.1.2.2.2.2,r131,(a119.2.2.2.2.2.2.2.2.2++[a124])) (x133.1,x133.2,u144,u148) h SF (aT.ix [4,5,2,3,8,9,10,11,12,13,14,15,16,17,18,19,20,21,22] rfl rfl) (aD.refl _ _)
    refine Go.Sx.vT ?_
    exact cE (a119.2.1,a119.2.2.2.1,a119.2.2.2.2.1,a119.2.2.2.2.2.1,a119.2.2.2.2.2.2.1,a119.2.2.2.2.2.2.2.1,a119.2.2.2.2.2.2.2.2.1,a119.2.2.2.2.2.2.2.2.2) (b120.1,b120.2.1,b120.2.2.1,b120.2.2.2) h SF (aT.ix [0,1,2,3,4,5,7,17,18] rfl rfl) (aD.refl _ _)
   intro a96 b97 h
   unfold jY at h
   refine aH ?_
   refine JR.start [0,0,1,5,15,31] 4 mixedOrders (by decide +kernel) ?_
   refine JR.open (by exact rfl) ?_
   refine jkMove rfl<|jkLdA 1 rfl<|jkFld rfl<|bS (Know.one (aC.sl (bA (i:=2) (j:=3) rfl rfl cH))) fun ho99=>qW rfl rfl rfl (JA 4 rfl rfl ho99 rfl rfl rfl) (fun x98=>(n_ [([1],[])] rfl)) fun x98=>bN 4 rfl rfl<|qkFld rfl<|MU (Fp 4 (us:=[vI (a96.2.1),vI (a96.2.2.1),vI (a96.2.2.2.1),vI (a96.2.2.2.2.1),vU (a96.2.2.2.2.2.1)]) rfl rfl rfl rfl rfl rfl rfl rfl rfl) fun x100=>dtN<|sqR<|qkLdA 4 rfl<|bV (Know.one ((aR (aC.res 8 rfl) jU))) fun ho101=>bV (Know.one ((aR (aC.res 0 rfl) jU))) fun ho102=>bV (Know.one (aC.sl (bA (i:=2) (j:=3) rfl rfl cH))) fun ho103=>bF 5 (vs:=[b97.2.2.1,b97.2.2.2,b97.1,vI (a96.2.1),vI (a96.2.2.1),vI (a96.2.2.2.1),vI (a96.2.2.2.2.1),vU (a96.2.2.2.2.2.1)]) rfl rfl (cM ho101 (cM ho102 (cM ho103 (cM rfl (cM rfl (cM rfl (cM rfl (cM rfl rfl)))))))) rfl rfl rfl<|qkAsg rfl<|dtN<|aQ ?_
   exact uW (a96.2.2.2.2.2.2.2,a96.1,a96.2.2.2.2.2.2.1,a96.2.1,a96.2.2.1,a96.2.2.2.1,a96.2.2.2.2.1,a96.2.2.2.2.2.1,(0:Int)) (b97.2.2.1,b97.2.2.2,b97.1,b97.2.1) h (.inl rfl) (Dt.r2 rfl (RV.cell 5 rfl rfl rfl rfl) (RV.tmp rfl)) rfl (aT.ix [6,7,8,0,2,3] rfl rfl) (aD.refl _ _)
  intro a59 b60 h
  unfold mJ at h
  refine qkExt rfl<|qkExt rfl<|bV (Know.one ((aR (aC.res 2 rfl) jU))) fun ho61=>bV (Know.one ((aR (aC.res 3 rfl) jU))) fun ho62=>bV (Know.one (aC.sl (bA (i:=4) (j:=5) rfl rfl cH))) fun ho63=>bF 0 (vs:=[b60.1,b60.2.1,b60.2.2.1,vI (a59.2.2.2.1),vI (a59.2.2.2.2.1),vI (a59.2.2.2.2.2.1),vI (a59.2.2.2.2.2.2.1),vU (a59.2.2.2.2.2.2.2.1)]) rfl rfl (cM ho61 (cM ho62 (cM ho63 (cM rfl (cM rfl (cM rfl (cM rfl (cM rfl rfl)))))))) rfl rfl rfl<|qkAsg rfl<|dtN<|aQ ?_
  exact uW (a59.2.2.2.1,a59.2.2.2.2.1,a59.2.2.2.2.2.1,a59.2.2.2.2.2.2.1,a59.2.2.2.2.2.2.2.1,a59.2.2.2.2.2.2.2.2,a59.1,a59.2.1,a59.2.2.1) (b60.1,b60.2.1,b60.2.2.1,b60.2.2.2) h (.inl rfl) (Dt.r2 rfl (RV.cell 0 rfl rfl rfl rfl) (RV.tmp rfl)) rfl (aT.ix [1,2,3,4,5] rfl rfl) (aD.refl _ _)
 intro a37 b38 h
 unfold qS at h
 refine qkExt rfl<|qkExt rfl<|bV (Know.one ((aR (aC.res 1 rfl) jU))) fun ho39=>bV (Know.one ((aR (aC.res 2 rfl) jU))) fun ho40=>bV (Know.one (aC.sl (bA (i:=3) (j:=4) rfl rfl cH))) fun ho41=>bF 0 (vs:=[b38.1,b38.2.1,b38.2.2.1,vI (a37.1),vI (a37.2.1),vI (a37.2.2.1),vI (a37.2.2.2.1),vU (a37.2.2.2.2.1)]) rfl rfl (cM ho39 (cM ho40 (cM ho41 (cM rfl (cM rfl (cM rfl (cM rfl (cM rfl rfl)))))))) rfl rfl rfl<|qkAsg rfl<|dtN<|aQ ?_
 cases h
 exact iX (b38.1,b38.2.1,b38.2.2.1,b38.2.2.2) rfl rfl (RV.cell 0 rfl rfl rfl rfl) (RV.tmp rfl) (aT.ix [1,2,3,4] rfl rfl) aD.nil
end Go.Proofs.YtigggfnchamobaaGreatDoor
end
section
namespace Go.Proofs.YtigggfnchamobaaGreatDoor
open Go Go.Sx
section
abbrev CT:=BL
theorem BF (l:aL) (hl:l.length<=900):∃b,eW 1000 l=some b:=by
 unfold eW
 have:=vV (step:=fJ l) (Q:=fun _:Bool=>True) (fun i:Int=>∃k:Nat,i=(k:Int)∧k<=l.length) (fun i=>l.length - i.toNat) (fun i ag hI hrec=>by
  obtain⟨k,rfl,hk⟩:=hI
  unfold fJ jW
  by_cases hlt:k<l.length
  ·rw[if_pos (by omega),cL (by omega)]
   split
   ·exact⟨_,rfl,trivial⟩
   ·rw[eB (by omega)]
    exact hrec _ ⟨k+1,rfl,by omega⟩ (by omega)
  ·rw[if_neg (by omega)]
   exact⟨_,rfl,trivial⟩) 1000 0 ⟨0,rfl,by omega⟩ (by omega)
 obtain⟨b,hb,_⟩:=this
 exact⟨b,hb⟩
theorem Ir (k:CT):∃b,gW 1000 k=some b:=by
 obtain⟨q,hq⟩:=BF [k.2.2.2.2] (by simp)
 have key:∀a,∃b,fC 1000 k a=some b:=by
  intro a
  unfold fC iK
  split
  ·exact⟨_,rfl⟩
  ·split
   ·exact⟨_,rfl⟩
   ·split
    ·split
     ·rw[bE hq];exact⟨_,rfl⟩
     ·exact⟨_,rfl⟩
    ·exact⟨_,rfl⟩
 unfold gW
 repeat' split
 all_goals exact key _
theorem Pj {t:Nat} (ht:t<4294967296):∃n,iR 1000 (t:Int)=some n:=by
 have hb:(List.length EN:Int)=256:=by decide +kernel
 have h255:∀a:Nat,a<4294967296->0<=cQ .u32 (a:Int) 255∧cQ .u32 (a:Int) 255<256:=fun a ha=>by
  rw[show(255:Int)=((255:Nat):Int)from rfl,BA ha (by omega)]
  have:a &&& 255<=255:=Nat.and_le_right
  omega
 have hs:∀k:Nat,k<32->nP .u32 (t:Int) (k:Int)=((t / 2^k:Nat):Int):=fun k hk=>EM hk
 have s24:nP .u32 (t:Int) 24=((t / 2^24:Nat):Int):=hs 24 (by omega)
 have s16:nP .u32 (t:Int) 16=((t / 2^16:Nat):Int):=hs 16 (by omega)
 have s8:nP .u32 (t:Int) 8=((t / 2^8:Nat):Int):=hs 8 (by omega)
 unfold iR
 rw[hb,s24,s16,s8,cL (by decide),cL (by omega),cL (by decide),cL (h255 _ (by omega)),cL (by decide),cL (h255 _ (by omega)),cL (h255 _ ht)]
 exact⟨_,rfl⟩
theorem Qr (k:CT) {t:Nat} (ht:t<4294967296) (e:Int):∃r,iZ 1000 k (t:Int) e=some r:=by
 obtain⟨b,hb⟩:=Ir k
 obtain⟨q,hq⟩:=BF [(t:Int),e] (by simp)
 obtain⟨n,hn⟩:=Pj ht
 have key:∀a,∃r,mT 1000 k (t:Int) e a=some r:=by
  intro a
  unfold mT mU
  split
  ·exact⟨_,rfl⟩
  ·split
   ·exact⟨_,rfl⟩
   ·rw[bE hn]
    split<;>exact⟨_,rfl⟩
 unfold iZ
 rw[bE (show gW 1000 _=some b from hb)]
 split
 ·exact⟨_,rfl⟩
 ·split
  ·exact key _
  ·rw[bE hq];exact key _

def Na (g:GR) (v i:Nat):Int:=zI (row g (gO (row g v) i).1.toNat) (v:Int)
def BU (g:GR):a_:=(List.range g.2.length).map fun v=>(List.range (row g v).length).map (Na g v)
def bJ (p:Dr) (g:GR):x_:=(p,g,jR g g.2.length,BU g)
theorem SA {g:GR} (hV:VG g) (p:Dr) (kind:Int) (c:a_) (lv:Int) (ws:aL):
  bD (eF 1000 p g kind c lv ws) 1000 ((0:Int),(0:Int),(List.replicate (Int.toNat (List.length g.2:Int)) ([]:aL)))=jZ 1000 p g kind c lv ws (jR g g.2.length,BU g):=by
 have h24:=hV.n24
 have hlen:=hV.len
 let f:Nat->aL:=fun v=>(List.range (row g v).length).map (Na g v)
 let Q:Nat->a_:=fun k=>(List.range k).map f++List.replicate (g.2.length - k) []
 have hQ:∀k,k<=g.2.length->(Q k).length=g.2.length:=fun k hk=>by simp[Q];omega
 rw[show List.replicate (Int.toNat (List.length g.2:Int)) ([]:aL)=Q 0 by simp[Q]]
 refine dX (step:=eF 1000 p g kind c lv ws) g.2.length (fun k=>((k:Int),jR g k,Q k)) (fun k ag hk=> ?_) (fun ag=> ?_) 1000 (by omega)
 ·have hdeg:=(hV.node k hk).deg
  have hq:k<(Q k).length:=by rw[hQ k (by omega)];exact hk
  unfold eF
  dsimp only
  rw[if_pos (by omega),cL (by omega),cL (by omega)]
  let Rw:Nat->aL:=fun j=>(List.range j).map (Na g k)
  have e0:Q k=(Q k).set k (Rw 0):=by
   have:at' (Q k) (k:Int)=Rw 0:=by
    rw[kK hq];simp[Q,Rw]
   rw[<-this]
   exact(Gs (Q k) (k:Int) (by simpa using hq) (by omega)).symm
  rw[show(Q k)=(Q k).set k (Rw 0)from e0]
  have hgen:∀A:a_,A.length=g.2.length->bD (gU 1000 g ((k:Int),jR g k,(Q k).set k (Rw 0)) ag) 1000 ((0:Int),A.set k (Rw 0))=ag (((k+1:Nat):Int),jR g (k+1),A.set k (f k)):=by
   intro A hA
   refine dX (step:=gU 1000 g ((k:Int),jR g k,(Q k).set k (Rw 0)) ag) (K:=ag (((k+1:Nat):Int),jR g (k+1),A.set k (f k))) (row g k).length (fun j=>((j:Int),A.set k (Rw j))) (fun j ag2 hj=> ?_) (fun ag2=> ?_) 1000 (by omega)
   ·obtain⟨u,hu,hue⟩:=hV.to hk hj
    have hdu:=(hV.node u hu).deg
    have a1:at' (A.set k (Rw j)) (k:Int)=Rw j:=by rw[xQ _ _ _ _ (by omega),if_pos rfl]
    have hRl:(Rw j).length=j:=by simp[Rw]
    unfold gU
    dsimp only
    rw[if_pos (show(j:Int)<((row g k).length:Int) by omega),cL (show 0<=(j:Int)∧(j:Int)<((row g k).length:Int) by omega),cL (by simp only[List.length_set];omega),show at' (at' g.2 (k:Int)) (j:Int)=gO (row g k) j from rfl,hue,bE (show pO 1000 _ (u:Int) (k:Int)=_ from Pm g u (k:Int) hu (by omega)),a1,cL (by rw[hRl];simp;omega),cL (by simp only[List.length_set];omega),eB (by omega),Int.toNat_natCast,List.set_set]
    have:Rw j++[zI (row g u) (k:Int)]=Rw (j+1):=by
     simp only[Rw];rw[List.range_succ,List.map_append,List.map_singleton,Na,hue,Int.toNat_natCast]
    rw[this]
   ·unfold gU mM
    dsimp only
    rw[if_neg (show¬((row g k).length:Int)<((row g k).length:Int)from Int.lt_irrefl _),eB (by omega)]
    rfl
  have:=hgen (Q k) (hQ k (by omega))
  rw[uE f [] g.2.length k hk]at this
  exact this
 ·unfold eF
  dsimp only
  rw[if_neg (by omega)]
  simp[Q,BU,f]
end
section
def vQ (S:x_) (R:List RL) (lv:Nat) (c:a_):Nat:=XU S R c &&& lv
theorem Uw (S:x_) (R:List RL) (c:a_) (v:Nat):(XU S R c).testBit v=(decide (v<S.2.1.2.length)&&decide (0<=oH S R c v)):=HN _ v _
theorem CJ (S:x_) (R:List RL) (lv:Nat) (c:a_) (v:Nat):(vQ S R lv c).testBit v=true↔v<S.2.1.2.length∧0<=oH S R c v∧lv.testBit v=true:=by
 unfold vQ
 rw[Nat.testBit_and,Uw,Bool.and_eq_true,Bool.and_eq_true,decide_eq_true_eq,decide_eq_true_eq,and_assoc]
theorem WZ {S:x_} (hV:VG S.2.1) (R:List RL) (c:a_):XU S R c<4294967296:=NG _ (by have:=hV.n24;omega)
theorem Ma (S:x_) (R:List RL) (lv:Nat) (c:a_):Om S.2.1 (vQ S R lv c):=fun i hi=>((CJ S R lv c i).1 hi).1
def IK (ch:eC):aL:=ch.map fun t=>((t:Nat):Int)
section
variable {p:Dr} {g:GR} {R:List RL}
theorem OU (hV:VG g) (hp:BS g p.2.1) (hz:p.2.2.map wV=FN R) (hR:wK p.2.1.length R=true) {kind:Int} (hk1:1<=kind) (hk4:kind<=4) {c0:List (List Int)} (hc0:Lt g c0 p.2.1) {lv:Nat} (hlv:lv<4294967296) {ws:List Int} (hws:ws.length<=900) (hw:∀k:Nat,k<ws.length->∃m:Nat,at' ws (k:Int)=(m:Int)∧m<4294967296)
  (P:Nat->List (List Int)->List Nat->CT->Prop) (h0:P 0 c0 [] (0,0,0,0,cQ .u32 ((vQ (bJ p g) R lv c0:Nat):Int) 16777215))
  (hstep:∀k c ch cnt t cnt' err,k<ws.length->sN g p.2.1.length c->P k c ch cnt->vQ (bJ p g) R lv c≠0->t≠0->(∀i,t.testBit i=true->(vQ (bJ p g) R lv c).testBit i=true)->(kind=2->∀v u,t.testBit v=true->t.testBit u=true->¬GT g v u)->(kind=4->t=vQ (bJ p g) R lv c)->
   iZ 1000 cnt (t:Int) ((vQ (bJ p g) R lv (gZ (bJ p g) p.2.1 R c t):Nat):Int)=some (cnt',err)->P (k+1) (gZ (bJ p g) p.2.1 R c t) (ch++[t]) cnt'):
  ∃k c ch cnt ens,kW 1000 p g kind c0 (lv:Int) ws=some ((IK ch,ens,c,cnt),0)∧P k c ch cnt∧sN g p.2.1.length c∧k<=ws.length∧ch.length=k∧ens.length=k+1∧at' ens (k:Int)=((vQ (bJ p g) R lv c:Nat):Int)∧(k=ws.length∨vQ (bJ p g) R lv c=0):=by
 have h24:=hV.n24
 have hvl:=hp.len
 let S:=bJ p g
 have hVS:VG S.2.1:=hV
 obtain⟨net,hnet,hN⟩:=Xz hV
 have hcheck:uS 1000 p g kind c0 (ws.length:Int)=some 0:=by
  unfold uS
  rw[bE (show pQ 1000 _ _ c0=_ from QM hV hp hc0),if_neg (by decide)]
  have:sY 1000 kind=some true:=by
   unfold sY oA
   rw[if_pos hk1,decide_eq_true hk4]
  rw[bE this,if_neg (by decide),if_neg (by omega)]
 unfold kW
 rw[bE (show uS 1000 _ _ kind c0 _=_ from hcheck),if_neg (by decide),cL (by omega),SA hV p kind c0 (lv:Int) ws]
 unfold jZ mL
 rw[bE (show kV 1000 _ _=_ from K_ hV hp)]
 unfold mK
 rw[bE (show oE 1000 _=_ from hnet),bE (show uR 1000 _=_ from Wn hV)]
 have hen:∀c,sN g p.2.1.length c->cZ 1000 (p,(p,g,jR g g.2.length,BU g),zQ g p.2.1) c=some ((XU S R c:Nat):Int):=fun c hc=>Mb hV hc hz hR (by simp[zQ])
 have hand:∀c,cQ .u32 ((XU S R c:Nat):Int) (lv:Int)=((vQ S R lv c:Nat):Int):=fun c=>BA (WZ hVS R c) hlv
 unfold qR
 dsimp only
 rw[bE (Np c0 (by rw[hc0.len];omega) (fun v hv=>by rw[hc0.row v (by rw[<-hc0.len];exact hv)];omega)),bE (show cZ 1000 _ c0=_ from hen c0 hc0.shape),hand,bE (show rS 1000 _=some (0,0,0,0,cQ .u32 ((vQ S R lv c0:Nat):Int) 16777215)from rfl),bE (show qC 1000 _ _ _=some ()from rfl),cL (by simp),List.nil_append]
 let A20:Int×List Int×(List (List (Int×Int)))×Int×List (List Int):=(((2^g.2.length - 1:Nat):Int),net,zQ g p.2.1,jR g g.2.length,BU g)
 have fin:∀k c ch cnt ens,P k c ch cnt->sN g p.2.1.length c->k<=ws.length->ch.length=k->ens.length=k+1->at' ens (k:Int)=((vQ S R lv c:Nat):Int)->(k=ws.length∨vQ S R lv c=0)->
   OK (fun r:(List Int×List Int×List (List Int)×CT)×Int=>∃k c ch cnt ens,r=((IK ch,ens,c,cnt),0)∧P k c ch cnt∧sN g p.2.1.length c∧k<=ws.length∧ch.length=k∧ens.length=k+1∧at' ens (k:Int)=((vQ S R lv c:Nat):Int)∧(k=ws.length∨vQ S R lv c=0)) (jY (ens,cnt.1,cnt.2.1,cnt.2.2.1,cnt.2.2.2.1,cnt.2.2.2.2,c,IK ch)):=
  fun k c ch cnt ens a1 a2 a3 a4 a5 a6 a7=>⟨_,rfl,k,c,ch,cnt,ens,rfl,a1,a2,a3,a4,a5,a6,a7⟩
 have key:=vV (step:=j_ 1000 p g kind (lv:Int) ws A20) (Q:=fun r:(List Int×List Int×List (List Int)×CT)×Int=>∃k c ch cnt ens,r=((IK ch,ens,c,cnt),0)∧P k c ch cnt∧sN g p.2.1.length c∧k<=ws.length∧ch.length=k∧ens.length=k+1∧at' ens (k:Int)=((vQ S R lv c:Nat):Int)∧(k=ws.length∨vQ S R lv c=0))
  (fun x=>∃(k:Nat) (c:List (List Int)) (ch:List Nat) (cnt:CT) (ens:List Int),x=(((vQ S R lv c:Nat):Int),ens,(k:Int),cnt.1,cnt.2.1,cnt.2.2.1,cnt.2.2.2.1,cnt.2.2.2.2,c,IK ch)∧P k c ch cnt∧sN g p.2.1.length c∧k<=ws.length∧ch.length=k∧ens.length=k+1∧at' ens (k:Int)=((vQ S R lv c:Nat):Int)) (fun x=>ws.length - x.2.2.1.toNat) (fun x ag hI hrec=>by
  obtain⟨k,c,ch,cnt,ens,rfl,b1,b2,b3,b4,b5,b6⟩:=hI
  unfold j_
  dsimp only
  by_cases hlt:k<ws.length
  rotate_left
  ·rw[if_neg (by omega)]
   exact fin k c ch cnt ens b1 b2 b3 b4 b5 b6 (.inl (by omega))
  obtain⟨w,hwe,hw32⟩:=hw k hlt
  have hin:Om g (vQ S R lv c):=Ma S R lv c
  obtain⟨t,ht,hsub,hne⟩:=Mz hV hN hk1 hk4 hin hw32
  rw[if_pos (by omega),cL (by omega),hwe,bE (show fE 1000 net kind _ _=_ from ht)]
  unfold qT
  dsimp only
  by_cases he0:vQ S R lv c=0
  ·rw[if_pos (by omega)]
   exact fin k c ch cnt ens b1 b2 b3 b4 b5 b6 (.inr he0)
  obtain⟨ht0,hperm,hk2,hk4'⟩:=hne he0
  have ht32:t<4294967296:=by have:=Om.lt hV (fun i hi=>hin i (hsub i hi));omega
  rw[if_neg (by omega),bE (show fD 1000 net kind _ _=_ from hperm),if_neg (by decide)]
  have hst:gC 1000 (p,(p,g,jR g g.2.length,BU g),zQ g p.2.1) c (t:Int)=some (gZ S p.2.1 R c t):=Vr (gr:=jR g g.2.length) (bk:=BU g) hV hp b2 hz hR ht32 (fun v hv=>((CJ S R lv c v).1 (hsub v hv)).2.1)
  have hsh:sN g p.2.1.length (gZ S p.2.1 R c t):=b2.step
  obtain⟨⟨cnt',err⟩,hadd⟩:=Qr cnt ht32 ((vQ S R lv (gZ S p.2.1 R c t):Nat):Int)
  rw[bE (show gC 1000 _ c (t:Int)=_ from hst),bE (show cZ 1000 _ _=_ from hen _ hsh),hand,bE (show iZ 1000 _ (t:Int) _=_ from hadd),bE (show qC 1000 _ _ _=some ()from rfl),cL (by simp[IK];omega),cL (by simp;omega),eB (by omega)]
  refine hrec _ ⟨k+1,gZ S p.2.1 R c t,ch++[t],cnt',ens++[((vQ S R lv (gZ S p.2.1 R c t):Nat):Int)],by simp[IK],hstep k c ch cnt t cnt' err hlt b2 b1 he0 ht0 hsub hk2 hk4' hadd,hsh,by omega,by simp[b4],by simp[b5],?_⟩ (by dsimp only;omega)
  exact Iu (pre:=ens) (rest:=[]) (by simp) b5) 1000 (((vQ S R lv c0:Nat):Int),[((vQ S R lv c0:Nat):Int)],(0:Int),0,0,0,0,cQ .u32 ((vQ S R lv c0:Nat):Int) 16777215,c0,[])
  ⟨0,c0,[],(0,0,0,0,cQ .u32 ((vQ S R lv c0:Nat):Int) 16777215),[((vQ S R lv c0:Nat):Int)],rfl,h0,hc0.shape,by omega,rfl,rfl,rfl⟩ (by dsimp only;omega)
 obtain⟨r,hr,k,c,ch,cnt,ens,rfl,hrest⟩:=key
 exact⟨k,c,ch,cnt,ens,hr,hrest⟩
end
end
end Go.Proofs.YtigggfnchamobaaGreatDoor
end
section
namespace Go.Proofs.YtigggfnchamobaaGreatDoor
open Go.Sx
def r_  (a3:aL):Option aL:=
 some (a3)
def oK (a9:aL×Int) (ag8:(aL×Int)->Option aL) (a15:aL):Option aL:=
 ag8 (a15,(wI .i64 (a9.2+(1:Int))))
def lM (p0:aL) (p1:Int) (a9:aL×Int) (ag8:(aL×Int)->Option aL):Option aL:=
 if a9.2<p1 then(if(List.length p0:Int)=(0:Int)then(ck ((List.length a9.1:Int)+(List.length ([(4294967295:Int)]):Int)<=1099511627) (oK a9 ag8 (a9.1++([(4294967295:Int)]))))else(ck ((List.length p0:Int)≠0) (ck (0<=(Int.tmod a9.2 (List.length p0:Int))∧(Int.tmod a9.2 (List.length p0:Int))<(List.length p0:Int)) (ck ((List.length p0:Int)≠0) (ck ((24:Int)≠0) (ck (0<=(wI .u64 (Int.tmod (wI .i64 (Int.tdiv a9.2 (List.length p0:Int))) (24:Int)))) (ck (0<=(wI .u64 ((24:Int) - (wI .u64 (Int.tmod (wI .i64 (Int.tdiv a9.2 (List.length p0:Int))) (24:Int)))))) (ck ((List.length a9.1:Int)+(List.length ([(cQ .u32 (Iv .u32 (yY .u32 (cQ .u32 (at' p0 (Int.tmod a9.2 (List.length p0:Int))) (16777215:Int)) (wI .u64 (Int.tmod (wI .i64 (Int.tdiv a9.2 (List.length p0:Int))) (24:Int)))) (nP .u32 (cQ .u32 (at' p0 (Int.tmod a9.2 (List.length p0:Int))) (16777215:Int)) (wI .u64 ((24:Int) - (wI .u64 (Int.tmod (wI .i64 (Int.tdiv a9.2 (List.length p0:Int))) (24:Int))))))) (16777215:Int))]):Int)<=1099511627) (oK a9 ag8 (a9.1++([(cQ .u32 (Iv .u32 (yY .u32 (cQ .u32 (at' p0 (Int.tmod a9.2 (List.length p0:Int))) (16777215:Int)) (wI .u64 (Int.tmod (wI .i64 (Int.tdiv a9.2 (List.length p0:Int))) (24:Int)))) (nP .u32 (cQ .u32 (at' p0 (Int.tmod a9.2 (List.length p0:Int))) (16777215:Int)) (wI .u64 ((24:Int) - (wI .u64 (Int.tmod (wI .i64 (Int.tdiv a9.2 (List.length p0:Int))) (24:Int))))))) (16777215:Int))])))))))))))else(r_  (a9.1))
def nH (U:Nat) (p0:aL) (p1:Int):Option aL:=
 bD (lM p0 p1) U (([]:aL),(0:Int))
theorem FC:aP Tryz.prog 14:=Tryz.call14
theorem pU (U:Nat) {p0:aL} {p1:Int} (v0:Value) (r:aL) (h:nH U p0 p1=some r):
  aU Tryz.prog 14 #[v0,vI (p1)] [Sl xN v0 p0] (fun x:Value=>x) (fun x l=>Ar iV x r::l) (fun _ l=>l):=by
 refine aU.of Tryz.func14 rfl Tryz.ntmps14 rfl fun c=>?_
 unfold nH at h
 refine sqR<|qkAsg rfl<|dtN<|sqR<|qkAsg rfl<|dtN<|aH<|midL (B:=Value) (fun a3=>r_  a3=some r) (fun a3 b4=>[(5,b4)]) (fun a3 b4=>[Ar iV b4 a3]) ?_ ?_
 ·refine sqR<|qkAsg rfl<|dtN<|aN<|jM (iI iV)<|loopL (B:=Value) (lM p0 p1) (fun a9 b10=>[(0,v0),(1,vI (p1)),(5,b10),(6,vI (a9.2))]) (fun a9 b10=>[Ar iV b10 a9.1]) (([]:aL),(0:Int)) (lX) h SF (aT.refl _) ?_
  intro k11 a9 b10 h
  refine aH<|sqR<|qkMove rfl<|qkMove rfl<|qkLss rfl<|dtN ?_
  refine eD h rfl (fun h=>?_) fun h=>?_
  ·refine cG<|aH<|midL (B:=Value) (fun a15=>oK a9 (bD (lM p0 p1) k11) a15=some r) (fun a15 b16=>[(0,v0),(1,vI (p1)),(5,b16),(6,vI (a9.2))]) (fun a15 b16=>[Ar iV b16 a15]) ?_ ?_
   ·refine aN<|aH<|sqR<|qkMove rfl<|qkLen (aC.fact 0 rfl) rfl<|qkEql rfl<|dtN ?_
    refine eD h rfl (fun h=>?_) fun h=>?_
    ·refine sqR<|qkMove rfl<|aE (bZ (e:=iV) ([(4294967295:Int)]) [(0,vU (4294967295:Int))] rfl rfl rfl rfl (nA (vU (4294967295:Int)) rfl) rfl rfl rfl) rfl fun u18=>ckE h fun j20 h=>aE (fP 1 jU rfl rfl rfl (aR (aC.res 0 rfl) jU) rfl rfl rfl rfl j20 rfl) rfl fun u19=>qkAsg rfl<|dtN<|pG<|dR<|uK<|wZ ?_
     exact cE (a9.1++([(4294967295:Int)])) (u19) h SF (aT.ix [1] rfl rfl) (aD.refl _ _)
    refine cG<|aH ?_
    refine JR.start [0,0,0,4,14,31,63,0,0,256,896,1920,3968,127,16383] 14 mixedOrders (by decide +kernel) ?_
    refine JR.open (by exact rfl) ?_
    refine jkMove rfl<|jkMove rfl<|jkMove rfl<|bG rfl .nil (mC 0 rfl) (fI rfl (aC.fact 0 rfl) rfl) aK.z<|ckE h fun j21 h=>jqN rfl (JZ rfl rfl j21)<|ckE h fun j22 h=>bG rfl .nil (mC 0 rfl) (aY rfl rfl (aC.fact 0 rfl) rfl rfl j22) aK.z<|bG rfl .nil (mC 0 rfl) (bR rfl (aC.fact 0 rfl) rfl rfl rfl BR j22) aK.z<|jkMove rfl<|jkMove rfl<|bG rfl .nil (mC 0 rfl) (fI rfl (aC.fact 0 rfl) rfl) aK.z<|ckE h fun j23 h=>jqN rfl (Qq rfl rfl j23)<|ckE h fun j24 h=>jqN rfl (JZ rfl rfl j24)<|jqN rfl (LP rfl rfl rfl)<|jqN rfl (sP rfl)<|bN 14 rfl rfl<|qkAsg rfl<|dtN<|sqR<|qkMove rfl<|qkAnd rfl<|qkAsg rfl<|dtN<|aM<|qkMove rfl<|qkMove rfl<|qkMove rfl<|ckE h fun j25 h=>aB (J_ rfl rfl j25) rfl<|qkMove rfl<|qkMove rfl<|aB (oQ rfl rfl) rfl<|ckE h fun j26 h=>aB (Cz rfl rfl j26) rfl<|aB (TC rfl rfl) rfl<|qkAnd rfl<|aE (bZ (e:=iV) ([(cQ .u32 (Iv .u32 (yY .u32 (cQ .u32 (at' p0 (Int.tmod a9.2 (List.length p0:Int))) (16777215:Int)) (wI .u64 (Int.tmod (wI .i64 (Int.tdiv a9.2 (List.length p0:Int))) (24:Int)))) (nP .u32 (cQ .u32 (at' p0 (Int.tmod a9.2 (List.length p0:Int))) (16777215:Int)) (wI .u64 ((24:Int) - (wI .u64 (Int.tmod (wI .i64 (Int.tdiv a9.2 (List.length p0:Int))) (24:Int))))))) (16777215:Int))]) [(0,vU (cQ .u32 (Iv .u32 (yY .u32 (cQ .u32 (at' p0 (Int.tmod a9.2 (List.length p0:Int))) (16777215:Int)) (wI .u64 (Int.tmod (wI .i64 (Int.tdiv a9.2 (List.length p0:Int))) (24:Int)))) (nP .u32 (cQ .u32 (at' p0 (Int.tmod a9.2 (List.length p0:Int))) (16777215:Int)) (wI .u64 ((24:Int) - (wI .u64 (Int.tmod (wI .i64 (Int.tdiv a9.2 (List.length p0:Int))) (24:Int))))))) (16777215:Int)))] rfl rfl rfl rfl (nA (vU (cQ .u32 (Iv .u32 (yY .u32 (cQ .u32 (at' p0 (Int.tmod a9.2 (List.length p0:Int))) (16777215:Int)) (wI .u64 (Int.tmod (wI .i64 (Int.tdiv a9.2 (List.length p0:Int))) (24:Int)))) (nP .u32 (cQ .u32 (at' p0 (Int.tmod a9.2 (List.length p0:Int))) (16777215:Int)) (wI .u64 ((24:Int) - (wI .u64 (Int.tmod (wI .i64 (Int.tdiv a9.2 (List.length p0:Int))) (24:Int))))))) (16777215:Int))) rfl) rfl rfl rfl) rfl fun u27=>ckE h fun j29 h=>aE (fP 1 jU rfl rfl rfl (aR (aC.res 0 rfl) jU) rfl rfl rfl rfl j29 rfl) rfl fun u28=>qkAsg rfl<|dY<|inT ?_
    exact cE (a9.1++([(cQ .u32 (Iv .u32 (yY .u32 (cQ .u32 (at' p0 (Int.tmod a9.2 (List.length p0:Int))) (16777215:Int)) (wI .u64 (Int.tmod (wI .i64 (Int.tdiv a9.2 (List.length p0:Int))) (24:Int)))) (nP .u32 (cQ .u32 (at' p0 (Int.tmod a9.2 (List.length p0:Int))) (16777215:Int)) (wI .u64 ((24:Int) - (wI .u64 (Int.tmod (wI .i64 (Int.tdiv a9.2 (List.length p0:Int))) (24:Int))))))) (16777215:Int))])) (u28) h SF (aT.ix [1] rfl rfl) (aD.refl _ _)
   intro a15 b16 h
   unfold oK at h
   refine aM<|qkMove rfl<|qkAdd rfl<|qkAsg rfl<|dtN ?_
   exact yB (a15,(wI .i64 (a9.2+(1:Int)))) (b16) h SF rfl
  refine Go.Sx.vT ?_
  exact jA (a9.1) (b10) h SF rfl
 intro a3 b4 h
 unfold r_ at h
 refine sqR<|qkMove rfl<|qkAsg rfl<|dtN<|aQ ?_
 cases h
 exact fO (b4) rfl rfl (RV.tmp rfl) (aT.refl _) aD.nil
end Go.Proofs.YtigggfnchamobaaGreatDoor
end
section
namespace Go.Proofs.YtigggfnchamobaaGreatDoor
open Go Go.Sx
section
theorem Lm (x:Int):0<=wI .u64 x:=by
 rw[AQ]
 have:IntKind.u64.wrap x=x%18446744073709551616:=rfl
 rw[this];omega
theorem PE (l:aL) {n:Nat} (hn:n<=900):∃ws,nH 1000 l (n:Int)=some ws∧ws.length=n∧∀k:Nat,k<ws.length->∃m:Nat,at' ws (k:Int)=(m:Int)∧m<4294967296:=by
 unfold nH
 obtain⟨⟨ws,i⟩,⟨hi,hl,hb⟩,he⟩:=uQ (step:=lM l (n:Int)) (K:=fun z=>some z.1) n
  (fun k z=>z.2=(k:Int)∧z.1.length=k∧∀j:Nat,j<k->∃m:Nat,at' z.1 (j:Int)=(m:Int)∧m<4294967296) (fun k z ag hk hI=>by
  obtain⟨ws,i⟩:=z
  obtain⟨hi,hl,hb⟩:=hI
  dsimp only at hi hl hb
  subst hi
  have snoc:∀m:Nat,m<4294967296->∀j:Nat,j<k+1->∃m':Nat,at' (ws++[(m:Int)]) (j:Int)=(m':Int)∧m'<4294967296:=fun m hm j hj=>by
   rw[Jh ws _ (by omega)]
   by_cases e:j<ws.length
   ·rw[if_pos e];exact hb j (by omega)
   ·rw[if_neg e];exact⟨m,rfl,hm⟩
  have hin:∀m:Nat,(List.length ws:Int)+(List.length [(m:Int)]:Int)<=1099511627:=fun m=>by simp;omega
  unfold lM oK
  dsimp only
  rw[if_pos (by omega),eB (by omega)]
  by_cases h0:l.length=0
  ·rw[if_pos (by omega),cL (show(List.length ws:Int)+(List.length [(4294967295:Int)]:Int)<=1099511627 from hin 4294967295)]
   exact⟨_,⟨rfl,by simp[hl],snoc 4294967295 (by omega)⟩,rfl⟩
  ·have e1:Int.tmod (k:Int) (l.length:Int)=((k%l.length:Nat):Int):=rfl
   have hlt:k%l.length<l.length:=Nat.mod_lt _ (by omega)
   rw[if_neg (by omega),cL (by omega),cL (by rw[e1];omega),cL (by omega),cL (by decide),cL (Lm _),cL (Lm _)]
   have hX:∀X:Int,∃m:Nat,cQ .u32 X (16777215:Int)=(m:Int)∧m<4294967296:=fun X=>⟨_,EL _ _,Nat.lt_of_le_of_lt Nat.and_le_left (Fq _)⟩
   obtain⟨m,hm,hm32⟩:=hX (Iv .u32 (yY .u32 (cQ .u32 (at' l (Int.tmod (k:Int) (l.length:Int))) (16777215:Int)) (wI .u64 (Int.tmod (wI .i64 (Int.tdiv (k:Int) (l.length:Int))) (24:Int)))) (nP .u32 (cQ .u32 (at' l (Int.tmod (k:Int) (l.length:Int))) (16777215:Int)) (wI .u64 ((24:Int) - (wI .u64 (Int.tmod (wI .i64 (Int.tdiv (k:Int) (l.length:Int))) (24:Int)))))))
   rw[hm,cL (hin m)]
   exact⟨_,⟨rfl,by simp[hl],snoc m hm32⟩,rfl⟩) (fun z ag hI=>by
  obtain⟨ws,i⟩:=z
  obtain⟨hi,hl,hb⟩:=hI
  dsimp only at hi
  subst hi
  unfold lM r_
  dsimp only
  rw[if_neg (by omega)]) 1000 (([]:aL),(0:Int)) ⟨rfl,rfl,fun j hj=>by omega⟩ (by omega)
 exact⟨ws,he,hl,fun k hk=>hb k (by dsimp only at hl;omega)⟩

theorem QQ {d:Nat} (hd:d<4294967296):∃lv:Nat,TN .u32 4294967295 (d:Int)=(lv:Int)∧lv<4294967296∧∀i,i<32->lv.testBit i = !d.testBit i:=by
 refine⟨(BitVec.ofInt 32 4294967295 ^^^ BitVec.ofInt 32 (d:Int)).toNat,GN _ (BitVec.isLt _),BitVec.isLt _,fun i hi=> ?_⟩
 have h1:(BitVec.ofInt 32 4294967295 ^^^ BitVec.ofInt 32 (d:Int)).toNat=GW 4294967295 ^^^ GW (d:Int):=BitVec.toNat_xor ..
 rw[h1,oT hd,show GW 4294967295=2^32 - 1 from oT (a:=4294967295) (by omega),Nat.testBit_xor,Nat.testBit_two_pow_sub_one,decide_eq_true hi]
 simp
def zZ (c:a_) (v:Nat):Int:=at' (at' c (v:Int)) 0
def DN (g:GR) (c:a_) (v i:Nat):Int:=at' (at' c (gO (row g v) i).1) 0
theorem CU {g:GR} {c:a_} {v i u:Nat} (h:(gO (row g v) i).1=(u:Int)):DN g c v i=zZ c u:=by unfold DN zZ;rw[h]
end
section
theorem LW:∀i,i<256->0<=at' EN ((i:Nat):Int)∧at' EN ((i:Nat):Int)<=8∧(i≠0->1<=at' EN ((i:Nat):Int)):=by
 have h:((List.range 256).all fun i=>decide (0<=at' EN ((i:Nat):Int)∧at' EN ((i:Nat):Int)<=8∧(i≠0->1<=at' EN ((i:Nat):Int))))=true:=by decide +kernel
 intro i hi
 exact of_decide_eq_true (List.all_eq_true.1 h i (List.mem_range.2 hi))
theorem Vd {t:Nat} (ht:t<16777216) (h0:t≠0):∃n:Nat,iR 1000 (t:Int)=some (n:Int)∧1<=n∧n<=24:=by
 have hb:(List.length EN:Int)=256:=by decide +kernel
 have h255:∀a:Nat,a<4294967296->cQ .u32 (a:Int) 255=((a%256:Nat):Int):=fun a ha=>by
  rw[show(255:Int)=((255:Nat):Int)from rfl,BA ha (by omega),show(255:Nat)=2^8 - 1 from rfl,Nat.and_two_pow_sub_one_eq_mod]
 have hs:∀k:Nat,k<32->nP .u32 (t:Int) (k:Int)=((t / 2^k:Nat):Int):=fun k hk=>EM hk
 have s24:nP .u32 (t:Int) 24=((t / 2^24:Nat):Int):=hs 24 (by omega)
 have s16:nP .u32 (t:Int) 16=((t / 2^16:Nat):Int):=hs 16 (by omega)
 have s8:nP .u32 (t:Int) 8=((t / 2^8:Nat):Int):=hs 8 (by omega)
 have z24:t / 2^24=0:=Nat.div_eq_of_lt (by omega)
 unfold iR
 rw[hb,s24,s16,s8,h255 _ (by omega),h255 _ (by omega),h255 _ (by omega),z24,cL (by decide),cL (by omega),cL (by decide),cL (by omega),cL (by decide),cL (by omega),cL (by omega)]
 obtain⟨a1,a2,a3⟩:=LW (t / 2^16%256) (by omega)
 obtain⟨b1,b2,b3⟩:=LW (t / 2^8%256) (by omega)
 obtain⟨c1,c2,c3⟩:=LW (t%256) (by omega)
 have z0:at' EN ((0:Nat):Int)=0:=rfl
 have hpos:1<=at' EN ((t / 2^16%256:Nat):Int)+at' EN ((t / 2^8%256:Nat):Int)+at' EN ((t%256:Nat):Int):=by
  by_cases e1:t / 2^16%256=0
  ·by_cases e2:t / 2^8%256=0
   ·have:=c3 (by omega);omega
   ·have:=b3 e2;omega
  ·have:=a3 e1;omega
 have w8:∀x:Int,0<=x->x<=100->wI .u8 x=x:=fun x h1 h2=>by
  rw[AQ]
  have:IntKind.u8.wrap x=x%256:=rfl
  rw[this];omega
 generalize at' EN ((t / 2^16%256:Nat):Int)=A at *
 generalize at' EN ((t / 2^8%256:Nat):Int)=B at *
 generalize at' EN ((t%256:Nat):Int)=C at *
 rw[z0,w8 (0+A) (by omega) (by omega),w8 (0+A+B) (by omega) (by omega),w8 (0+A+B+C) (by omega) (by omega),wr (by omega) (by omega)]
 exact⟨(0+A+B+C).toNat,by congr 1;omega,by omega,by omega⟩
theorem Eo (l:aL) (hl:l.length<=900) (h:∀x∈l,∃a:Nat,x=(a:Int)∧a<16777216):eW 1000 l=some true:=by
 unfold eW
 refine dX (step:=fJ l) (K:=some true) l.length (fun k=>(k:Int)) (fun k ag hk=> ?_) (fun ag=> ?_) 1000 (by omega)
 ·obtain⟨a,ha,h24⟩:=h (at' l (k:Int)) (by rw[kK hk];exact List.getElem_mem hk)
  unfold fJ
  rw[if_pos (by omega),cL (by omega),ha,eB (by omega)]
  have:rI .u32 (a:Int) (16777215:Int)=0:=(Qy _ _).2 fun i hi=>by
   rw[oT (by omega)]at hi
   have e:GW 16777215=2^24 - 1:=oT (a:=16777215) (by omega)
   rw[e,Nat.testBit_two_pow_sub_one,decide_eq_true_eq]
   by_cases h:i<24
   ·exact h
   ·have:=Nat.testBit_lt_two_pow (x:=a) (i:=i) (Nat.lt_of_lt_of_le h24 (Nat.pow_le_pow_right (n:=2) (by omega) (show 24<=i by omega)))
    rw[this]at hi;cases hi
  rw[this,if_neg (by simp)]
 ·unfold fJ jW
  rw[if_neg (by omega)]
structure Ff (k:Nat) (cnt:CT) (R B pe:Nat):Prop where
 steps:cnt.1=(k:Int)
 moves:(k:Int)<=cnt.2.1∧cnt.2.1<=24*(k:Int)
 rounds:cnt.2.2.1=(R:Int)
 begun:cnt.2.2.2.1=(B:Int)
 pend:cnt.2.2.2.2=(pe:Int)
 le:R<=B∧B<=k∧B<=R+1
 p24:pe<16777216
theorem Ff.valid {k:Nat} {cnt:CT} {R B pe:Nat} (h:Ff k cnt R B pe) (hk:k<=1000):gW 1000 cnt=some true:=by
 obtain⟨a,b,c,d,e,f,g⟩:=h
 have hp:=Eo [(pe:Int)] (by simp) fun x hx=>by
  have hx:x=(pe:Int):=by simpa using hx
  exact⟨pe,hx,g⟩
 unfold gW
 rw[a,c,d,if_neg (by omega),if_neg (by omega),if_neg (by omega),if_neg (by omega),decide_eq_false (by omega)]
 unfold fC iK
 rw[a,c,d,e,if_neg (by decide),eB (by omega),if_neg (by omega),if_pos b.1,wr (by omega) (by omega),if_pos b.2,bE hp]
theorem Ff.add {k:Nat} {cnt:CT} {R B pe:Nat} (h:Ff k cnt R B pe) (hk:k<900) {t en:Nat} (ht:t<16777216) (h0:t≠0) (hen:en<16777216) {cnt':CT} {err:Int} (hadd:iZ 1000 cnt (t:Int) (en:Int)=some (cnt',err)):
  ∃pe':Nat,(∀i,pe'.testBit i=(pe.testBit i && !t.testBit i&&en.testBit i))∧((pe'=0∧Ff (k+1) cnt' (R+1) (R+1) en)∨(pe'≠0∧Ff (k+1) cnt' R (R+1) pe')):=by
 have hv:=h.valid (by omega)
 obtain⟨a,b,c,d,e,f,g⟩:=h
 obtain⟨n,hn,hn1,hn2⟩:=Vd ht h0
 have hp:=Eo [(t:Int),(en:Int)] (by simp) fun x hx=>by
  have hx:x=(t:Int)∨x=(en:Int):=by simpa using hx
  rcases hx with rfl|rfl
  ·exact⟨t,rfl,ht⟩
  ·exact⟨en,rfl,hen⟩
 have hdl:BB pe t<4294967296:=Kl pe t
 have hpb:∀i,(BB pe t &&& en).testBit i=(pe.testBit i && !t.testBit i&&en.testBit i):=fun i=>by
  rw[Nat.testBit_and,Hx (by omega) (by omega)]
 have hp24:BB pe t &&& en<16777216:=Nat.lt_of_le_of_lt Nat.and_le_right hen
 unfold iZ at hadd
 rw[bE (show gW 1000 _=some true from hv),if_neg (by decide),if_neg (by omega),bE hp]at hadd
 unfold mT mU at hadd
 dsimp only at hadd
 rw[a,c,e,if_neg (by decide),if_neg (by omega),bE hn,Kb,BA hdl (by omega),eB (by omega),eB (by omega),wr (by omega) (by omega)]at hadd
 refine⟨BB pe t &&& en,hpb,?_⟩
 by_cases hz:BB pe t &&& en=0
 ·rw[if_pos (by rw[hz];rfl)]at hadd
  have:=Option.some.inj hadd
  obtain⟨rfl,_⟩:=Prod.mk.inj this
  exact .inl ⟨hz,rfl,⟨by dsimp only;omega,by dsimp only;omega⟩,rfl,rfl,rfl,by omega,hen⟩
 ·rw[if_neg (by omega)]at hadd
  have:=Option.some.inj hadd
  obtain⟨rfl,_⟩:=Prod.mk.inj this
  exact .inr ⟨hz,rfl,⟨by dsimp only;omega,by dsimp only;omega⟩,rfl,rfl,rfl,by omega,hp24⟩
end
section
def vT:E:= .ite (.bi 37 (.ag 24 (.lf 12 0)) (.lf 6 0)) (.bi 33 (.ag 24 (.lf 12 0)) (.lf 1 1)) (.lf 6 0)
def YO:E:= .ag 23 (.bi 35 (.lf 12 0) (.ag 24 (.lf 12 0)))
def ZA:E:= .bi 41 (.lf 10 0) (.bi 42 (.bi 36 (.lf 5 0) (.lf 1 0)) (.bi 36 (.lf 5 1) (.lf 4 0)))
def Zz:E:= .bi 41 (.un 19 (.lf 10 0)) (.bi 42 (.bi 36 (.lf 5 0) vT) (.bi 36 (.lf 5 1) YO))
def RB:List RL:=[(ZA,[(0,.lf 1 0),(1,.lf 4 0)]),(Zz,[(0,vT),(1,YO)])]
theorem Vm:wK 2 RB=true:=by decide +kernel
theorem IS (g:GR) (v:Nat):lo g (at' fU ((0:Nat):Int)) v=0:=rfl
theorem Xs (g:GR) (v:Nat):lo g (at' fU ((1:Nat):Int)) v = -1:=rfl
theorem IJ (g:GR) (v:Nat):hi g (at' fU ((0:Nat):Int)) v=(g.2.length:Int):=by
 show(0:Int)+1*(g.2.length:Int)+0*jR g g.1.length=_
 omega
theorem Xk (g:GR) (v:Nat):hi g (at' fU ((1:Nat):Int)) v=((row g v).length:Int) - 1:=rfl
theorem Zs {g:GR} (hV:VG g):BS g fU:=by
 have h24:=hV.n24
 refine⟨by decide,NW,fun x hx=> ?_,fun x hx hk=> ?_⟩
 ·have hx:x<2:=hx
  match x,hx with
  |0,_=>exact .inl rfl
  |1,_=>exact .inr (.inr rfl)
 ·have hx:x<2:=hx
  match x,hx,hk with
  |0,_,_=>rw[IS,IJ];omega
  |1,_,hk=>exact absurd hk (by decide)
def PM (c:a_) (v:Nat):Int:=at' (at' c (v:Int)) 1
def Mo (g:GR) (c:a_) (v:Nat):aL:=(List.range (row g v).length).map fun q=>DN g c v q
def XB (g:GR) (c:a_) (v:Nat):Int:=if AC (Mo g c v)<(g.1.length:Int)then Vo (wI .i64 (AC (Mo g c v)+1))else(g.1.length:Int)
def YB (g:GR) (c:a_) (v:Nat):Int:=tU ((List.range (row g v).length).map fun q=>Dv (decide (DN g c v q=AC (Mo g c v))))
def TB (g:GR) (c:a_) (v:Nat):eY:=if v=0 then(0,-1)else(XB g c v,YB g c v)
def CW (g:GR) (c:a_) (v:Nat):Prop:=zZ c v=(TB g c v).1∧PM c v=(TB g c v).2
theorem zY (b:Bool):Dv b≠0↔b=true:=by cases b<;>simp[Dv]
theorem ZK (b:Bool):Dv b=0↔b=false:=by cases b<;>simp[Dv]
section
variable {p:Dr} {g:GR} {c:List (List Int)} {v:Nat}
theorem Re:pA (bJ p g) c v vT=XB g c v:=by
 show(if Dv (decide (AC (Mo g c v)<(g.1.length:Int)))≠0 then Vo (wI .i64 (AC (Mo g c v)+1))else(g.1.length:Int))=_
 unfold XB
 by_cases h:AC (Mo g c v)<(g.1.length:Int)
 ·rw[if_pos h,if_pos (by rw[zY];exact decide_eq_true h)]
 ·rw[if_neg h,if_neg (by rw[zY];simpa using h)]
theorem Rf:pA (bJ p g) c v YO=YB g c v:=rfl
theorem Xj:pA (bJ p g) c v ZA=Dv (decide (Dv (decide ((v:Int)=0))≠0)&&decide (Dv (decide (Dv (decide (zZ c v≠0))≠0)||decide (Dv (decide (PM c v ≠ -1))≠0))≠0)):=rfl
theorem Xi:pA (bJ p g) c v Zz=Dv (decide (Dv (decide (Dv (decide ((v:Int)=0))=0))≠0)&&decide (Dv (decide (Dv (decide (zZ c v≠pA (bJ p g) c v vT))≠0)||decide (Dv (decide (PM c v≠pA (bJ p g) c v YO))≠0))≠0)):=rfl
theorem Nx:pA (bJ p g) c v ZA≠0↔v=0∧(zZ c v≠0∨PM c v ≠ -1):=by
 rw[Xj,zY,Bool.and_eq_true,decide_eq_true_eq,decide_eq_true_eq,zY,zY,Bool.or_eq_true,decide_eq_true_eq,decide_eq_true_eq,decide_eq_true_eq,zY,zY,decide_eq_true_eq,decide_eq_true_eq]
 constructor
 ·rintro⟨a,b⟩;exact⟨by omega,b⟩
 ·rintro⟨a,b⟩;exact⟨by omega,b⟩
theorem Nw:pA (bJ p g) c v Zz≠0↔v≠0∧(zZ c v≠XB g c v∨PM c v≠YB g c v):=by
 rw[Xi,Re,Rf,zY,Bool.and_eq_true,decide_eq_true_eq,decide_eq_true_eq,zY,zY,Bool.or_eq_true,decide_eq_true_eq,decide_eq_true_eq,decide_eq_true_eq,ZK,zY,zY,decide_eq_true_eq,decide_eq_true_eq,decide_eq_false_iff_not]
 constructor
 ·rintro⟨a,b⟩;exact⟨by omega,b⟩
 ·rintro⟨a,b⟩;exact⟨by omega,b⟩
theorem KN (h:0<=oH (bJ p g) RB c v):(oH (bJ p g) RB c v=0∧v=0∧¬CW g c v)∨(oH (bJ p g) RB c v=1∧v≠0∧¬CW g c v):=by
 obtain⟨i,h1,h2,h3⟩:=(Gq (bJ p g) RB c v).resolve_left (fun e=>by omega)
 have h2:i<2:=h2
 match i,h2 with
 |0,_=>
  obtain⟨a,b⟩:=Nx.1 h3
  refine .inl ⟨h1,a,?_⟩
  unfold CW TB
  rw[if_pos a]
  rintro⟨e1,e2⟩
  rcases b with b|b
  ·exact b e1
  ·exact b e2
 |1,_=>
  obtain⟨a,b⟩:=Nw.1 h3
  refine .inr ⟨h1,a,?_⟩
  unfold CW TB
  rw[if_neg a]
  rintro⟨e1,e2⟩
  rcases b with b|b
  ·exact b e1
  ·exact b e2
theorem HU (h:¬0<=oH (bJ p g) RB c v):CW g c v:=by
 have e:oH (bJ p g) RB c v = -1:=by
  rcases Gq (bJ p g) RB c v with e|⟨i,h1,_⟩
  ·exact e
  ·omega
 have a0:¬pA (bJ p g) c v ZA≠0:=fun q=>q (Gr.1 e 0 (by decide))
 have a1:¬pA (bJ p g) c v Zz≠0:=fun q=>q (Gr.1 e 1 (by decide))
 rw[Nx]at a0
 rw[Nw]at a1
 unfold CW TB
 by_cases hv:v=0
 ·rw[if_pos hv]
  exact⟨Decidable.not_not.1 fun q=>a0 ⟨hv,.inl q⟩,Decidable.not_not.1 fun q=>a0 ⟨hv,.inr q⟩⟩
 ·rw[if_neg hv]
  exact⟨Decidable.not_not.1 fun q=>a1 ⟨hv,.inl q⟩,Decidable.not_not.1 fun q=>a1 ⟨hv,.inr q⟩⟩
theorem Pq:¬0<=oH (bJ p g) RB c v↔CW g c v:=by
 refine⟨HU,fun h q=> ?_⟩
 rcases KN q with⟨_,_,e⟩|⟨_,_,e⟩<;>exact e h
theorem Va (hV:VG g) (hc:Lt g c fU) (hv:v<g.2.length) {i:Nat} (hi:i<(row g v).length):0<=DN g c v i∧DN g c v i<=(g.2.length:Int):=by
 obtain⟨u,hu,hue,_⟩:=hV.port hv hi
 rw[CU hue]
 have:=hc.ok u hu 0 (by decide)
 rw[IS,IJ]at this
 exact this
theorem Xu {x:Int} (h:x∈Mo g c v):∃i,i<(row g v).length∧DN g c v i=x:=by
 obtain⟨i,hi,he⟩:=List.mem_map.1 h
 exact⟨i,List.mem_range.1 hi,he⟩
theorem VI (hV:VG g) (hc:Lt g c fU) (hv:v<g.2.length):0<=XB g c v∧XB g c v<=(g.2.length:Int)∧(∀i,i<(row g v).length->XB g c v<=DN g c v i+1)∧(XB g c v=(g.2.length:Int)∨∃i,i<(row g v).length∧XB g c v=DN g c v i+1):=by
 have h24:=hV.n24
 have hlen:=hV.len
 have hle:∀i,i<(row g v).length->AC (Mo g c v)<=DN g c v i:=fun i hi=>UY (List.mem_map.2 ⟨i,List.mem_range.2 hi,rfl⟩)
 unfold XB
 by_cases h:AC (Mo g c v)<(g.1.length:Int)
 ·rw[if_pos h]
  rcases RR (Mo g c v)with e|e
  ·omega
  ·obtain⟨i,hi,he⟩:=Xu e
   have hb:=Va hV hc hv hi
   have hs:Vo (wI .i64 (AC (Mo g c v)+1))=AC (Mo g c v)+1:=by
    rw[wr (by omega) (by omega)];unfold Vo;omega
   rw[hs]
   refine⟨by omega,by omega,fun j hj=> ?_,.inr ⟨i,hi,by omega⟩⟩
   have:=hle j hj
   omega
 ·rw[if_neg h]
  refine⟨by omega,by omega,fun j hj=> ?_,.inl (by omega)⟩
  have:=hle j hj
  omega
theorem OQ (l:List Int) : -1<=tU l∧tU l<=(l.length:Int) - 1:=by
 unfold tU
 cases h:l.findIdx? nz with
 |none=>dsimp only;omega
 |some i=>
  obtain⟨hi,_⟩:=List.findIdx?_eq_some_iff_getElem.1 h
  dsimp only;omega
theorem YC : -1<=YB g c v∧YB g c v<=((row g v).length:Int) - 1:=by
 have:=OQ ((List.range (row g v).length).map fun q=>Dv (decide (DN g c v q=AC (Mo g c v))))
 rw[List.length_map,List.length_range]at this
 exact this
theorem VF (hV:VG g) (hc:Lt g c fU) (hv:v<g.2.length):(0<=(TB g c v).1∧(TB g c v).1<=(g.2.length:Int)) ∧ -1<=(TB g c v).2∧(TB g c v).2<=((row g v).length:Int) - 1:=by
 unfold TB
 split
 ·dsimp only;omega
 ·obtain⟨a,b,_⟩:=VI hV hc hv
  exact⟨⟨a,b⟩,YC⟩
theorem Zj (l:List Int) (h:l.length=2) (x y:Int):at' ((l.set 0 x).set 1 y) 0=x∧at' ((l.set 0 x).set 1 y) 1=y:=by
 match l,h with
 | [a,b],_=>exact⟨rfl,rfl⟩
theorem CB {k a b x:Int} (h1:a<=x) (h2:x<=b):yZ k (a,b) x=x:=by unfold yZ;rw[if_pos ⟨h1,h2⟩]
theorem Zd (hV:VG g) (hc:Lt g c fU) (hv:v<g.2.length) (h:0<=oH (bJ p g) RB c v):at' (z_ (bJ p g) fU RB c v (oH (bJ p g) RB c v)) 0=(TB g c v).1∧at' (z_ (bJ p g) fU RB c v (oH (bJ p g) RB c v)) 1=(TB g c v).2:=by
 have hr:(at' c (v:Int)).length=2:=hc.row v hv
 have e0:wA g fU v 0=(0,(g.2.length:Int)):=by unfold wA;rw[IS,IJ]
 have e1:wA g fU v 1=(-1,((row g v).length:Int) - 1):=by unfold wA;rw[Xs,Xk]
 obtain⟨⟨t1,t2⟩,t3,t4⟩:=VF hV hc hv
 rcases KN h with⟨e,a,_⟩|⟨e,a,_⟩
 ·have em:z_ (bJ p g) fU RB c v 0=((at' c (v:Int)).set 0 (yZ 1 (wA g fU v 0) 0)).set 1 (yZ 3 (wA g fU v 1) (-1)):=rfl
  have et:TB g c v=(0,-1):=by unfold TB;rw[if_pos a]
  rw[et]at t4 t2 ⊢
  dsimp only at t4 t2
  rw[e,em,e0,e1,CB (by omega) (by omega),CB (by omega) (by omega)]
  exact Zj _ hr _ _
 ·have em:z_ (bJ p g) fU RB c v 1=((at' c (v:Int)).set 0 (yZ 1 (wA g fU v 0) (pA (bJ p g) c v vT))).set 1 (yZ 3 (wA g fU v 1) (pA (bJ p g) c v YO)):=rfl
  have et:TB g c v=(XB g c v,YB g c v):=by unfold TB;rw[if_neg a]
  rw[et]at t1 t2 t3 t4 ⊢
  dsimp only at t1 t2 t3 t4
  rw[e,em,e0,e1,Re,Rf,CB (by omega) (by omega),CB (by omega) (by omega)]
  exact Zj _ hr _ _
theorem Tx {c':List (List Int)} (hV:VG g) (hv:v<g.2.length) (h:∀u,u<g.2.length->zZ c' u=zZ c u):TB g c' v=TB g c v:=by
 have hn:∀i,i<(row g v).length->DN g c' v i=DN g c v i:=fun i hi=>by
  obtain⟨u,hu,hue,_⟩:=hV.port hv hi
  rw[CU hue,CU hue,h u hu]
 have hl:Mo g c' v=Mo g c v:=List.map_congr_left fun i hi=>hn i (List.mem_range.1 hi)
 have hy:YB g c' v=YB g c v:=by
  unfold YB
  rw[hl]
  congr 1
  exact List.map_congr_left fun i hi=>by rw[hn i (List.mem_range.1 hi)]
 unfold TB
 rw[hy]
 unfold XB
 rw[hl]
end

structure Ox (g:GR) (c0:List (List Int)) (d:Nat) (w:Nat->Int):Prop where
 dead:∀v,v<g.2.length->d.testBit v=true->w v=zZ c0 v
 root:d.testBit 0=false->w 0=0
 le:∀v,v<g.2.length->0<=w v∧w v<=(g.2.length:Int)
 nb:∀v i u:Nat,0<v->v<g.2.length->d.testBit v=false->i<(row g v).length->(gO (row g v) i).1=(u:Int)->w v<=w u+1
 at_:∀v,0<v->v<g.2.length->d.testBit v=false->w v=(g.2.length:Int)∨∃i u:Nat,i<(row g v).length∧(gO (row g v) i).1=(u:Int)∧u<g.2.length∧w v=w u+1
theorem VC {g:GR} {c0:List (List Int)} {d:Nat} (hG:DG g c0) {l:List Int} (hs:PK g c0 d l) (hc:Tl g c0 d g.2.length l):Ox g c0 d (D l):=by
 have hn:=hG.v.n1
 have hall:∀{j v:Nat} {m:Int},Wk g c0 d j v m->D l v<=m:=fun hw=>hc.all hG (Nat.le_refl _) hw
 refine⟨fun v hv hd=> ?_,fun hd=> ?_,fun v hv=> ?_,fun v i u h0 hv hd hi hu=> ?_,fun v h0 hv hd=> ?_⟩
 ·obtain⟨k,hw⟩:=hs.ok v hv
  generalize hx:D l v=x at hw
  cases hw with
  |dead _ _=>rfl
  |root h=>rw[h]at hd;cases hd
  |init _ _ h=>rw[h]at hd;cases hd
  |step _ _ h _ _ _=>rw[h]at hd;cases hd
 ·obtain⟨k,hw⟩:=hs.ok 0 (by omega)
  generalize hx:D l 0=x at hw
  cases hw with
  |dead _ h=>rw[h]at hd;cases hd
  |root h=>rfl
  |init h _ _=>omega
  |step h _ _ _ _ _=>omega
 ·obtain⟨k,hw⟩:=hs.ok v hv
  have hge:=hw.ge hG
  refine⟨by omega,?_⟩
  cases hd:d.testBit v with
  |true=>exact Int.le_trans (hall (.dead hv hd)) (hG.val0 hv).2
  |false=>
   by_cases h0:v=0
   ·subst h0;have:=hall (.root hd);omega
   ·exact hall (.init (by omega) hv hd)
 ·have hun:u<g.2.length:=by
   obtain⟨u',hu',hue,_⟩:=hG.v.port hv hi
   have:(u:Int)=u':=by rw[<-hu,hue]
   omega
  obtain⟨k,hw⟩:=hs.ok u hun
  exact hall (.step h0 hv hd hi hu hw)
 ·obtain⟨k,hw⟩:=hs.ok v hv
  generalize hx:D l v=x at hw
  cases hw with
  |dead _ h=>rw[h]at hd;cases hd
  |root h=>omega
  |init _ _ _=>exact .inl rfl
  | @step _ i u k' m h1 h2 h3 hi hu hw'=>
   have hun:=hw'.lt (by omega)
   have a:=hall hw'
   obtain⟨k2,hw2⟩:=hs.ok u hun
   have b:=hall (.step h0 hv hd hi hu hw2)
   exact .inr ⟨i,u,hi,hu,hun,by omega⟩
def Cl (k:Nat) (x y:Int):Prop:=(y<(k:Int)->x=y)∧((k:Int)<=y->(k:Int)<=x)
theorem Cl.down {k:Nat} {x y:Int} (h:Cl (k+1) x y):Cl k x y:=by
 obtain⟨a,b⟩:=h
 refine⟨fun h=>a (by omega),fun h=> ?_⟩
 by_cases e:y<((k+1:Nat):Int)
 ·rw[a e];exact h
 ·have:=b (by omega);omega
theorem Cl.refl {k:Nat} {x:Int}:Cl k x x:=⟨fun _=>rfl,fun h=>h⟩
theorem Hv {g:GR} {c0 c:List (List Int)} {d k:Nat} {w:Nat->Int} (hV:VG g) (hW:Ox g c0 d w) (hc:Lt g c fU) (h:∀u,u<g.2.length->Cl k (zZ c u) (w u)) {v:Nat} (hv:v<g.2.length) (hd:d.testBit v=false):Cl (k+1) (TB g c v).1 (w v):=by
 unfold TB
 by_cases h0:v=0
 ·subst h0
  rw[if_pos rfl,hW.root hd]
  exact Cl.refl
 rw[if_neg h0]
 dsimp only
 obtain⟨x0,xn,xle,xin⟩:=VI hV hc hv
 have w0:=hW.le v hv
 have hp:0<v:=Nat.pos_of_ne_zero h0
 have hat:=hW.at_ v hp hv hd
 have hX:XB g c v=(g.2.length:Int)∨∃u,u<g.2.length∧XB g c v=zZ c u+1∧w v<=w u+1:=by
  rcases xin with e|⟨i,hi,e⟩
  ·exact .inl e
  ·obtain⟨u,hu,hue,_⟩:=hV.port hv hi
   rw[CU hue]at e
   exact .inr ⟨u,hu,e,hW.nb v i u hp hv hd hi hue⟩
 refine⟨fun hlt=> ?_,fun hge=> ?_⟩
 ·have hup:XB g c v<=w v:=by
   rcases hat with e|⟨i,u,hi,hue,hu,e⟩
   ·omega
   ·have:=xle i hi
    rw[CU hue,(h u hu).1 (by omega)]at this
    omega
  rcases hX with e|⟨u,hu,e,hwu⟩
  ·omega
  ·by_cases hk:w u<(k:Int)
   ·rw[(h u hu).1 hk]at e;omega
   ·have:=(h u hu).2 (by omega);omega
 ·rcases hX with e|⟨u,hu,e,hwu⟩
  ·omega
  ·have:=(h u hu).2 (by omega);omega
theorem Vp {g:GR} {c0 c:List (List Int)} {d:Nat} {w:Nat->Int} (hV:VG g) (hW:Ox g c0 d w) (hc:Lt g c fU) (hdead:∀v,v<g.2.length->d.testBit v=true->zZ c v=w v) (hoff:∀v,v<g.2.length->d.testBit v=false->CW g c v) {v:Nat} (hv:v<g.2.length):zZ c v=w v:=by
 have key:∀k:Nat,∀u,u<g.2.length->Cl k (zZ c u) (w u):=by
  intro k
  induction k with
  |zero=>
   intro u hu
   have a:=hc.ok u hu 0 (by decide)
   rw[IS,IJ]at a
   have b:=hW.le u hu
   have a1:0<=zZ c u:=a.1
   exact⟨fun q=>by omega,fun q=>by omega⟩
  |succ k ih=>
   intro u hu
   cases hd:d.testBit u with
   |true=>rw[hdead u hu hd];exact Cl.refl
   |false=>rw[(hoff u hu hd).1];exact Hv hV hW hc ih hu hd
 have:=hW.le v hv
 exact(key (g.2.length+1) v hv).1 (by omega)
end
section
structure Tn (p:Dr) (g:GR) (d lv:Nat) (w:Nat->Int) (k:Nat) (c:a_) (cnt:CT) (R B pe:Nat):Prop where
 cnt:Ff k cnt R B pe
 r:Lt g c fU
 dead:∀v,v<g.2.length->d.testBit v=true->zZ c v=w v
 cl:∀v,v<g.2.length->Cl R (zZ c v) (w v)
 ncl:∀v,v<g.2.length->d.testBit v=false->pe.testBit v=false->Cl (R+1) (zZ c v) (w v)
 fin:g.2.length<=R->∀v,v<g.2.length->d.testBit v=false->pe.testBit v=false->CW g c v
 top:R<=g.2.length+1
 last:R=g.2.length+1->vQ (bJ p g) RB lv c=0
 bg:B<=g.2.length+1
section
variable {p:Dr} {g:GR} {c0 c:List (List Int)} {d lv:Nat} {w:Nat->Int}
theorem DO (hlv:∀i,i<32->lv.testBit i = !d.testBit i) (hV:VG g) {v:Nat} (hv:v<g.2.length) (hd:d.testBit v=false) (h:(vQ (bJ p g) RB lv c).testBit v=false):CW g c v:=by
 have h24:=hV.n24
 refine HU (p:=p) fun q=> ?_
 have:(vQ (bJ p g) RB lv c).testBit v=true:=(CJ (bJ p g) RB lv c v).2 ⟨hv,q,by rw[hlv v (by omega),hd];rfl⟩
 rw[this]at h;cases h
theorem Ux (hlv:∀i,i<32->lv.testBit i = !d.testBit i) (hV:VG g) (h:∀v,v<g.2.length->d.testBit v=false->CW g c v):vQ (bJ p g) RB lv c=0:=by
 have h24:=hV.n24
 refine Nat.eq_of_testBit_eq fun i=> ?_
 rw[Nat.zero_testBit]
 cases hb:(vQ (bJ p g) RB lv c).testBit i with
 |false=>rfl
 |true=>
  obtain⟨h1,h2,h3⟩:=(CJ (bJ p g) RB lv c i).1 hb
  have h1:i<g.2.length:=h1
  rw[hlv i (by omega)]at h3
  exact absurd h2 (Pq.2 (h i h1 (by simpa using h3)))
theorem XM (hV:VG g) (hW:Ox g c0 d w) (hlv:∀i,i<32->lv.testBit i = !d.testBit i) (hc:Lt g c fU) (hdead:∀v,v<g.2.length->d.testBit v=true->zZ c v=w v):
  Tn p g d lv w 0 c (0,0,0,0,cQ .u32 ((vQ (bJ p g) RB lv c:Nat):Int) 16777215) 0 0 (vQ (bJ p g) RB lv c):=by
 have hn:=hV.n1
 have h24:vQ (bJ p g) RB lv c<16777216:=Om.lt hV (Ma (bJ p g) RB lv c)
 have hpe:cQ .u32 ((vQ (bJ p g) RB lv c:Nat):Int) 16777215=((vQ (bJ p g) RB lv c:Nat):Int):=by
  rw[show(16777215:Int)=((16777215:Nat):Int)from rfl,BA (by omega) (by omega),show(16777215:Nat)=2^24 - 1 from rfl,Nat.and_two_pow_sub_one_eq_mod,Nat.mod_eq_of_lt (by omega)]
 have hcl:∀v,v<g.2.length->Cl 0 (zZ c v) (w v):=fun v hv=>by
  have a:=hc.ok v hv 0 (by decide)
  rw[IS,IJ]at a
  have a1:0<=zZ c v:=a.1
  have b:=hW.le v hv
  exact⟨fun q=>by omega,fun q=>by omega⟩
 refine⟨⟨rfl,⟨by dsimp only;omega,by dsimp only;omega⟩,rfl,rfl,hpe,by omega,h24⟩,hc,hdead,hcl,fun v hv hd hp=> ?_,fun h=>by omega,by omega,fun h=>by omega,by omega⟩
 have:=DO (p:=p) hlv hV hv hd hp
 rw[this.1]
 exact Hv hV hW hc hcl hv hd
theorem Zm (hV:VG g) (hW:Ox g c0 d w) (hlv:∀i,i<32->lv.testBit i = !d.testBit i) {k:Nat} (hk:k<900) {cnt:CT} {R B pe:Nat} (hI:Tn p g d lv w k c cnt R B pe) {t:Nat} (hen:vQ (bJ p g) RB lv c≠0) (ht0:t≠0) (hsub:∀i,t.testBit i=true->(vQ (bJ p g) RB lv c).testBit i=true) {cnt':CT} {err:Int}
  (hadd:iZ 1000 cnt (t:Int) ((vQ (bJ p g) RB lv (gZ (bJ p g) fU RB c t):Nat):Int)=some (cnt',err)):
  ∃R' B' pe',Tn p g d lv w (k+1) (gZ (bJ p g) fU RB c t) cnt' R' B' pe'∧(t=vQ (bJ p g) RB lv c->pe=vQ (bJ p g) RB lv c->R'=R+1∧pe'=vQ (bJ p g) RB lv (gZ (bJ p g) fU RB c t)):=by
 have h24:=hV.n24
 have hc:=hI.r
 have hcl:=hc.len
 have hin:∀v,t.testBit v=true->v<g.2.length∧0<=oH (bJ p g) RB c v∧d.testBit v=false:=fun v hv=>by
  obtain⟨h1,h2,h3⟩:=(CJ (bJ p g) RB lv c v).1 (hsub v hv)
  have h1:v<g.2.length:=h1
  rw[hlv v (by omega)]at h3
  exact⟨h1,h2,by simpa using h3⟩
 have hrow:∀v,v<g.2.length->(at' c (v:Int)).length=2:=fun v hv=>hc.row v hv
 have hat:∀v,v<g.2.length->at' (gZ (bJ p g) fU RB c t) (v:Int)=if t.testBit v=true then z_ (bJ p g) fU RB c v (oH (bJ p g) RB c v)else at' c (v:Int):=fun v hv=>KW (by rw[hcl];exact hv)
 have hc1:∀v,t.testBit v=true->zZ (gZ (bJ p g) fU RB c t) v=(TB g c v).1∧PM (gZ (bJ p g) fU RB c t) v=(TB g c v).2:=fun v hv=>by
  obtain⟨h1,h2,_⟩:=hin v hv
  unfold zZ PM
  rw[hat v h1,if_pos hv]
  exact Zd hV hc h1 h2
 have hc0:∀v,v<g.2.length->t.testBit v=false->zZ (gZ (bJ p g) fU RB c t) v=zZ c v∧PM (gZ (bJ p g) fU RB c t) v=PM c v:=fun v hv hb=>by
  unfold zZ PM
  rw[hat v hv,if_neg (by rw[hb];decide)]
  exact⟨rfl,rfl⟩
 have hr':Lt g (gZ (bJ p g) fU RB c t) fU:=by
  refine⟨by rw[HV,hcl],fun v hv=> ?_,fun v hv x hx=> ?_⟩
  ·rw[hat v hv]
   split
   ·rw[HO];exact hrow v hv
   ·exact hrow v hv
  ·have hx:x<2:=hx
   obtain⟨⟨t1,t2⟩,t3,t4⟩:=VF hV hc hv
   match x,hx with
   | 0, _ =>
    rw[IS,IJ]
    show 0<=zZ (gZ (bJ p g) fU RB c t) v∧zZ (gZ (bJ p g) fU RB c t) v<=_
    cases hb:t.testBit v with
    |true=>rw[(hc1 v hb).1];exact⟨t1,t2⟩
    |false=>
     have:=hc.ok v hv 0 (by decide)
     rw[IS,IJ]at this
     rw[(hc0 v hv hb).1];exact this
   | 1, _ =>
    rw[Xs,Xk]
    show -1<=PM (gZ (bJ p g) fU RB c t) v∧PM (gZ (bJ p g) fU RB c t) v<=_
    cases hb:t.testBit v with
    |true=>rw[(hc1 v hb).2];exact⟨t3,t4⟩
    |false=>
     have:=hc.ok v hv 1 (by decide)
     rw[Xs,Xk]at this
     rw[(hc0 v hv hb).2];exact this
 have ht24:t<16777216:=Om.lt hV (fun i hi=>(hin i hi).1)
 have he24:vQ (bJ p g) RB lv (gZ (bJ p g) fU RB c t)<16777216:=Om.lt hV (Ma (bJ p g) RB lv _)
 have hRn:R<=g.2.length:=by
  have:=hI.top
  by_cases e:R=g.2.length+1
  ·exact absurd (hI.last e) hen
  ·omega
 obtain⟨pe',hpe,hcase⟩:=hI.cnt.add hk ht24 ht0 he24 hadd
 have hdead':∀v,v<g.2.length->d.testBit v=true->zZ (gZ (bJ p g) fU RB c t) v=w v:=fun v hv hd=>by
  have hb:t.testBit v=false:=by
   cases hb:t.testBit v with
   |false=>rfl
   |true=>rw[(hin v hb).2.2]at hd;cases hd
  rw[(hc0 v hv hb).1];exact hI.dead v hv hd
 have hcl':∀v,v<g.2.length->Cl R (zZ (gZ (bJ p g) fU RB c t) v) (w v):=fun v hv=>by
  cases hb:t.testBit v with
  |true=>
   obtain⟨h1,_,h3⟩:=hin v hb
   rw[(hc1 v hb).1]
   exact(Hv hV hW hc hI.cl h1 h3).down
  |false=>rw[(hc0 v hv hb).1];exact hI.cl v hv
 have hgood:∀v,v<g.2.length->d.testBit v=false->pe'.testBit v=false->Cl (R+1) (zZ (gZ (bJ p g) fU RB c t) v) (w v):=fun v hv hd hp=>by
  cases hb:t.testBit v with
  |true=>
   rw[(hc1 v hb).1]
   exact Hv hV hW hc hI.cl hv hd
  | false =>
   cases he:(vQ (bJ p g) RB lv (gZ (bJ p g) fU RB c t)).testBit v with
   |false=>
    rw[(DO (p:=p) hlv hV hv hd he).1]
    exact Hv hV hW hr' hcl' hv hd
   |true=>
    rw[hpe,hb,he]at hp
    rw[(hc0 v hv hb).1]
    exact hI.ncl v hv hd (by simpa using hp)
 -- when all distances are right they stay,and so do the nodes that have come to rest
 have hfin:g.2.length<=R->∀v,v<g.2.length->d.testBit v=false->pe'.testBit v=false->CW g (gZ (bJ p g) fU RB c t) v:=fun hR v hv hd hp=>by
  have heq:∀u,u<g.2.length->zZ c u=w u:=fun u hu=>by
   have a:=hI.cl u hu
   have b:=hW.le u hu
   have e:=hc.ok u hu 0 (by decide)
   rw[IS,IJ]at e
   have e2:zZ c u<=(g.2.length:Int):=e.2
   by_cases q:w u<(R:Int)
   ·exact a.1 q
   ·have:=a.2 (by omega);omega
  have heq':∀u,u<g.2.length->zZ (gZ (bJ p g) fU RB c t) u=w u:=fun u hu=>by
   have a:=hcl' u hu
   have b:=hW.le u hu
   have e:=hr'.ok u hu 0 (by decide)
   rw[IS,IJ]at e
   have e2:zZ (gZ (bJ p g) fU RB c t) u<=(g.2.length:Int):=e.2
   by_cases q:w u<(R:Int)
   ·exact a.1 q
   ·have:=a.2 (by omega);omega
  have hT:TB g (gZ (bJ p g) fU RB c t) v=TB g c v:=Tx hV hv fun u hu=>by rw[heq u hu,heq' u hu]
  cases hb:t.testBit v with
  |true=>unfold CW;rw[hT];exact hc1 v hb
  | false =>
   cases he:(vQ (bJ p g) RB lv (gZ (bJ p g) fU RB c t)).testBit v with
   |false=>exact DO (p:=p) hlv hV hv hd he
   |true=>
    rw[hpe,hb,he]at hp
    have:=hI.fin hR v hv hd (by simpa using hp)
    unfold CW at this ⊢
    rw[hT,(hc0 v hv hb).1,(hc0 v hv hb).2]
    exact this
 have hzero:pe'=0->∀v,pe'.testBit v=false:=fun e v=>by rw[e];exact Nat.zero_testBit v
 rcases hcase with⟨hz,hcnt⟩|⟨hz,hcnt⟩
 ·have hcl2:∀v,v<g.2.length->Cl (R+1) (zZ (gZ (bJ p g) fU RB c t) v) (w v):=fun v hv=>by
   cases hd:d.testBit v with
   |true=>rw[hdead' v hv hd];exact Cl.refl
   |false=>exact hgood v hv hd (hzero hz v)
  refine⟨R+1,R+1,_,⟨hcnt,hr',hdead',hcl2,fun v hv hd hp=> ?_,fun hR v hv hd hp=>DO (p:=p) hlv hV hv hd hp,by omega,fun hR=> ?_,by omega⟩,fun _ _=>⟨rfl,rfl⟩⟩
  ·rw[(DO (p:=p) hlv hV hv hd hp).1]
   exact Hv hV hW hr' hcl2 hv hd
  ·exact Ux hlv hV fun v hv hd=>hfin (by omega) v hv hd (hzero hz v)
 ·refine⟨R,R+1,pe',⟨hcnt,hr',hdead',hcl',hgood,hfin,by omega,fun hR=>by omega,by omega⟩,fun e1 e2=> ?_⟩
  refine absurd (Nat.eq_of_testBit_eq fun i=> ?_) hz
  rw[hpe,e2,<-e1,Nat.zero_testBit]
  cases t.testBit i<;>rfl
end
end
end Go.Proofs.YtigggfnchamobaaGreatDoor
end
section
namespace Go.Proofs.YtigggfnchamobaaGreatDoor
open Go.Sx
section
def zE (U:Nat)  : Option (ByteArray):=
 some (ByteArray.mk #[112,114,111,103,114,97,109,32,98,102,115,59,10,118,97,114,32,100,32,58,32,48,32,46,46,32,110,59,10,118,97,114,32,112,32,58,32,112,111,114,116,59,10,114,117,108,101,32,116,111,112,58,32,114,111,111,116,32,38,38,32,40,100,32,33,61,32,48,32,124,124,32,112,32,33,61,32,110,111,110,101,41,32,45,62,32,100,32,58,61,32,48,44,32,112,32,58,61,32,110,111,110,101,59,10,114,117,108,101,32,108,111,119,58,32,33,114,111,111,116,32,38,38,32,40,100,32,33,61,32,40,109,105,110,40,113,46,100,41,32,60,32,110,32,63,32,109,105,110,40,113,46,100,41,32,43,32,49,32,58,32,110,41,32,124,124,32,112,32,33,61,32,102,105,114,115,116,40,113,46,100,32,61,61,32,109,105,110,40,113,46,100,41,41,41,10,32,32,45,62,32,100,32,58,61,32,40,109,105,110,40,113,46,100,41,32,60,32,110,32,63,32,109,105,110,40,113,46,100,41,32,43,32,49,32,58,32,110,41,44,32,112,32,58,61,32,102,105,114,115,116,40,113,46,100,32,61,61,32,109,105,110,40,113,46,100,41,41,59,10])
theorem Kc:aP Tryz.prog 9:=Tryz.call9
theorem wR (U:Nat)  (r:ByteArray) (h:zE U  = some r):
  aU Tryz.prog 9 #[] [] (fun x:Unit=>vS (r)) (fun x l=>l) (fun _ l=>l):=by
 refine aU.of Tryz.func9 rfl Tryz.ntmps9 rfl fun c=>?_
 unfold zE at h
 refine sqR<|qkAsg rfl<|dtN<|sqR<|qkAsg rfl<|dtN<|aQ ?_
 cases h
 exact lF rfl
end
section
def sX (U:Nat) (p0:wX) (p1:dB) (p2:Int) (p3:a_) (p4:Int) (p5:aL):Option yN:=
 Option.bind (kW U ((p0.1,p0.2.1,p0.2.2)) ((p1.1,p1.2)) p2 p3 (TN .u32 (4294967295:Int) p4) p5) fun r4=>(some (((r4.1.1,r4.1.2.1,r4.1.2.2.1,((r4.1.2.2.2.1,r4.1.2.2.2.2.1,r4.1.2.2.2.2.2.1,r4.1.2.2.2.2.2.2.1,r4.1.2.2.2.2.2.2.2)))),r4.2))
theorem FB:aP Tryz.prog 13:=Tryz.call13
theorem pT (U:Nat) {p0:wX} {p1:dB} {p2:Int} {p3:a_} {p4:Int} {p5:aL} (v0:Value)  (v1:Value)  (v2:Value)  (v3:Value)  (z4:nK)  (v5:Value)  (z6:qU)  (v7:Value) (r:(aL×aL×a_×(Int×Int×Int×Int×Int))×Int) (h:sX U p0 p1 p2 p3 p4 p5=some r):
  aU Tryz.prog 13 #[Value.agg #[vS (p0.1),v0,v1],Value.agg #[v2,v3],vI (p2),v5,vU (p4),v7] [Sl aJ v0 p0.2.1,Sl aF v1 p0.2.2,PF (Value.agg #[vS p0.1,v0,v1]),Sl bL v2 p1.1,S2 aW v3 z4 p1.2,S2 bL v5 z6 p3,Sl xN v7 p5,Gb 0 (cellsOf Fg uU)] (fun x:NZ=>Value.tuple #[Value.agg #[x.1,x.2.1,x.2.2.1,vI (r.1.2.2.2.1),vI (r.1.2.2.2.2.1),vI (r.1.2.2.2.2.2.1),vI (r.1.2.2.2.2.2.2.1),vU (r.1.2.2.2.2.2.2.2)],vI (r.2)]) (fun x l=>Ar iV x.1 r.1.1::Ar iV x.2.1 r.1.2.1::Ar c_.raw x.2.2.1 x.2.2.2::jK bU x.2.2.2 r.1.2.2.1::l) (fun _ l=>l):=by
 refine aU.of Tryz.func13 rfl Tryz.ntmps13 rfl fun c=>?_
 refine sqR<|aE (aI.box (cs:=[vS (p0.1),v0,v1]) rfl rfl) rfl fun b1=>aE (aI.box (cs:=[v2,v3]) rfl rfl) rfl fun b2=>aE (aI.alloc (cs:=Bv) rfl rfl) rfl fun b3=>qkAsg rfl<|dtN<|sqR<|qkLdA 2 rfl<|qkLdA 1 rfl<|qkMove rfl<|qkMove rfl<|qkMove rfl<|aB (Tz rfl rfl) rfl<|qkMove rfl<|bnE h fun r4 w5 h=>aE (aI.callQ Wy (Ch U v0 v1 v2 v3 z4 v5 z6 v7 r4 w5) rfl (nE [0,1,2,3,4,5,6,7] rfl)) rfl fun x6=>qkExt rfl<|qkExt rfl<|bV (Know.one ((aR (aC.res 0 rfl) jU))) fun ho7=>bV (Know.one ((aR (aC.res 1 rfl) jU))) fun ho8=>bV (Know.one (aC.sl (bA (i:=2) (j:=3) rfl rfl cH))) fun ho9=>bF 4 (vs:=[x6.1,x6.2.1,x6.2.2.1,vI (r4.1.2.2.2.1),vI (r4.1.2.2.2.2.1),vI (r4.1.2.2.2.2.2.1),vI (r4.1.2.2.2.2.2.2.1),vU (r4.1.2.2.2.2.2.2.2)]) rfl rfl (cM ho7 (cM ho8 (cM ho9 (cM rfl (cM rfl (cM rfl (cM rfl (cM rfl rfl)))))))) rfl rfl rfl<|qkAsg rfl<|dtN<|aQ ?_
 cases h
 exact iX (x6.1,x6.2.1,x6.2.2.1,x6.2.2.2) rfl rfl (RV.cell 4 rfl rfl rfl rfl) (RV.tmp rfl) (aT.ix [0,1,2,3] rfl rfl) aD.nil
end
end Go.Proofs.YtigggfnchamobaaGreatDoor
end
section
namespace Go.Proofs.YtigggfnchamobaaGreatDoor
open Go Go.Sx Go.Gx
set_option maxRecDepth 100000
def xT (fuel:Nat):Option (Bool):=some (true)
theorem QA:aP Tryz.prog 16:=Tryz.call16
theorem QP:okT (FH Gp gp2 4000 16 [] H0)=true:=by kernel_rfl
theorem He (fuel:Nat) (r:Bool) (h:xT fuel=some r):
  aU Tryz.prog 16 #[] [Gb 0 (cellsOf Fg uU)] (fun x:Unit=>Value.bool (r)) (fun x l=>l) (fun _ l=>l):=by
 obtain rfl:=Option.some.inj h
 obtain⟨H',h1⟩:=Se QP
 rw[CE Fa]at h1
 exact IU Rq QA (fun ρ V' h=>h.bool_inv) fun T b=>CC (gs:=gl T) abn h1 (d_.start b rfl) .nil
end Go.Proofs.YtigggfnchamobaaGreatDoor
end
section
namespace Go.Proofs.YtigggfnchamobaaGreatDoor
open Go.Sx
noncomputable def jG  (a40:Bool):Option (Bool):=
 some (a40)
noncomputable def lR (U:Nat) (r11:a_) (a31:GJ) (a37:Unit):Option (Bool):=
 Option.bind (xT U) fun r42=>(if r42=true then(jG  (decide (a31.2.2.2.2.1<=(wI .i64 ((List.length r11:Int)+(1:Int))))))else(jG  (false)))
noncomputable def lS (a48:Int) (ag47:(Int)->Option (Bool)) (a56:Bool):Option (Bool):=
 if a56=true then(some (false))else(ag47 (wI .i64 (a48+(1:Int))))
noncomputable def gA (U:Nat) (r11:a_) (r14:aL) (a31:GJ) (a48:Int) (ag47:(Int)->Option (Bool)) (a52:Bool):Option (Bool):=
 if a52=true then(ck (0<=a48∧a48<(List.length a31.2.2.2.2.2.2.2.2:Int)) (if(List.length (at' a31.2.2.2.2.2.2.2.2 a48):Int)≠(2:Int)then(lS a48 ag47 (true))else(ck (0<=a48∧a48<(List.length a31.2.2.2.2.2.2.2.2:Int)) (ck (0<=(0:Int)∧(0:Int)<(List.length (at' a31.2.2.2.2.2.2.2.2 a48):Int)) (ck (0<=a48∧a48<(List.length r14:Int)) (lS a48 ag47 (decide ((at' (at' a31.2.2.2.2.2.2.2.2 a48) (0:Int))≠(at' r14 a48)))))))))else(lR U r11 a31 (()))
noncomputable def dJ (U:Nat) (r11:a_) (r14:aL) (a31:GJ) (a48:Int) (ag47:(Int)->Option (Bool)):Option (Bool):=
 if a48<(List.length r11:Int)then(ck (0<=(wI .i64 ((List.length a31.2.2.2.2.2.2.2.1:Int) - (1:Int)))∧(wI .i64 ((List.length a31.2.2.2.2.2.2.2.1:Int) - (1:Int)))<(List.length a31.2.2.2.2.2.2.2.1:Int)) (gA U r11 r14 a31 a48 ag47 (decide ((at' a31.2.2.2.2.2.2.2.1 (wI .i64 ((List.length a31.2.2.2.2.2.2.2.1:Int) - (1:Int))))=(0:Int)))))else(gA U r11 r14 a31 a48 ag47 (false))
noncomputable def f_ (U:Nat) (r11:a_) (r14:aL) (a31:GJ) (a34:Bool):Option (Bool):=
 if a34=true then(some (false))else(bD (dJ U r11 r14 a31) U (0:Int))
noncomputable def pM (U:Nat) (r11:a_) (r14:aL) (a31:GJ):Option (Bool):=
 if a31.1≠(0:Int)then(f_ U r11 r14 a31 (true))else(if(List.length r14:Int)≠(List.length r11:Int)then(f_ U r11 r14 a31 (true))else(if(List.length a31.2.2.2.2.2.2.2.2:Int)≠(List.length r11:Int)then(f_ U r11 r14 a31 (true))else(f_ U r11 r14 a31 (decide ((List.length a31.2.2.2.2.2.2.2.1:Int)=(0:Int))))))
noncomputable def qP (U:Nat) (p0:Aj) (p1:aL) (p2:Int) (p3:aL):Option (Bool):=
 Option.bind (gE U ((p0.1,p0.2.1,p0.2.2.1,p0.2.2.2.1,p0.2.2.2.2.1,p0.2.2.2.2.2)) (8:Int)) fun r2=>(Option.bind (zF U) fun r8=>(Option.bind (kY U ((r2.1,r2.2)) r8 p1) fun r11=>(Option.bind (jP U ((r2.1,r2.2)) r11 p2) fun r14=>(Option.bind (zE U) fun r74=>(Option.bind (oG U r74) fun r77=>Qs r77.2.2 fun z80=>(Option.bind (nH U p3 (120:Int)) fun r82=>(Option.bind (sX U ((r77.1,r77.2.1,z80)) ((r2.1,r2.2)) (3:Int) r11 p2 r82) fun r85=>(pM U r11 r14 (r85.2,r85.1.2.2.2.1,r85.1.2.2.2.2.1,r85.1.2.2.2.2.2.1,r85.1.2.2.2.2.2.2.1,r85.1.2.2.2.2.2.2.2,r85.1.1,r85.1.2.1,r85.1.2.2.1)))))))))
theorem Bu (U:Nat) {p0:Aj} {p1:aL} {p2:Int} {p3:aL} (v0:Value)  (v1:Value)  (v2:Value)  (v3:Value)  (v4:Value) (r:Bool) (h:qP U p0 p1 p2 p3=some r):
  aU Tryz.prog 4 #[Value.agg #[vI (p0.1),v0,v1,v2,vB (p0.2.2.2.2.1),vB (p0.2.2.2.2.2)],v3,vU (p2),v4] [Sl bL v0 p0.2.1,Sl bL v1 p0.2.2.1,Sl bL v2 p0.2.2.2.1,Sl bL v3 p1,Sl xN v4 p3,Gb 0 (cellsOf Fg uU)] (fun x:Unit=>vB (r)) (fun x l=>l) (fun _ l=>l):=by
 refine aU.of Tryz.func4 rfl Tryz.ntmps4 rfl fun c=>?_
 refine sqR<|aE (aI.box (cs:=[vI (p0.1),v0,v1,v2,vB (p0.2.2.2.2.1),vB (p0.2.2.2.2.2)]) rfl rfl) rfl fun b1=>qkAsg rfl<|dtN<|sqR<|qkLdA 0 rfl<|bnE h fun r2 w3 h=>aE (aI.callQ YH (yM U v0 v1 v2 r2 w3) rfl (nE [0,1,2] rfl)) rfl fun x4=>aE (aI.alloc (cs:=[lX,lX]) rfl rfl) rfl fun b5=>bV (Know.one ((aR (aC.res 1 rfl) cH))) fun ho6=>bV (Know.one (aC.sl (bA (i:=2) (j:=3) rfl rfl bK))) fun ho7=>bF 0 (vs:=[x4.1,x4.2.1]) rfl rfl (cM ho6 (cM ho7 rfl)) rfl rfl rfl<|dtN<|aH ?_
 refine JR.start [0,0,0,7,15] 3 mixedOrders (by decide +kernel) ?_
 refine JR.open (by exact rfl) ?_
 refine jkLdA 0 rfl<|bnE h fun r8 w9 h=>JR.loud rfl rfl rfl (aI.callQ Ws (Jj U  r8 w9) rfl .nil) rfl (fun x10=>(n_ [([1],[])] rfl)) fun x10=>jqN rfl (jS rfl)<|bN 3 rfl rfl<|bnE h fun r11 w12 h=>aE (aI.callQ Wr (GE U x4.1 x4.2.1 (List.zip x4.2.2 r2.2) x10 v3 r11 w12) rfl (aD.cons (aR (aC.res 2 rfl) cH) (aD.cons (bA (i:=3) (j:=4) rfl rfl bK) (aD.cons (aR (aC.res 0 rfl) qJ) (nE [3] rfl))))) rfl fun x13=>qkAsg rfl<|dtN<|sqR<|qkLdA 3 rfl<|qkMove rfl<|qkMove rfl<|bnE h fun r14 w15 h=>aE (aI.callQ Qz (xJ U x4.1 x4.2.1 (List.zip x4.2.2 r2.2) x13.1 (List.zip x13.2 r11) r14 w15) rfl (aD.cons (aR (aC.res 4 rfl) cH) (aD.cons (bA (i:=5) (j:=6) rfl rfl bK) (aD.cons (bA (i:=0) (j:=1) rfl rfl cH) .nil)))) rfl fun x16=>qkAsg rfl<|dtN<|aH<|midL (B:=Nat×Value×Value×Value×List Value) (fun a31=>pM U r11 r14 a31=some r) (fun a31 b32=>[(10,x13.1),(11,x16),(12,vP b32.1),(13,vI (a31.1))]) (fun a31 b32=>[bM b32.1 [b32.2.1,b32.2.2.1,b32.2.2.2.1,vI (a31.2.1),vI (a31.2.2.1),vI (a31.2.2.2.1),vI (a31.2.2.2.2.1),vU (a31.2.2.2.2.2.1)] 44,Ar iV b32.2.1 a31.2.2.2.2.2.2.1,Ar iV b32.2.2.1 a31.2.2.2.2.2.2.2.1,Ar c_.raw b32.2.2.2.1 b32.2.2.2.2,jK bU b32.2.2.2.2 a31.2.2.2.2.2.2.2.2,Ar bU x16 r14,Ar c_.raw x13.1 x13.2,jK bU x13.2 r11]) ?_ ?_
 ·have⟨r74,w75,h⟩:=bnd h
  refine bnE h fun r77 w78 h=>Hj [0,1,0,0,0,0,35,127,255,511,511,0,3071,8191] 13 [[2,3,4,5,0,1,6,7,8,9,10,11,12,13],[2,3,4,5,0,1,6,11,7,8,9,10,12,13],[2,3,4,5,0,1,11,6,7,8,9,10,12,13],[2,3,4,5,0,11,1,6,7,8,9,10,12,13],[2,3,4,5,11,0,1,6,7,8,9,10,12,13]] mixedOrders (by decide +kernel) (by decide +kernel) ?_
  intro o ho
  simp only[List.mem_cons,List.not_mem_nil,or_false]at ho
  rcases ho with rfl|rfl|rfl|rfl|rfl
  ·refine jkLdA 4 rfl<|jkMove rfl<|jkMove rfl<|jkMove rfl<|JR.loud rfl rfl rfl (aI.callQ Kc (wR U  r74 w75) rfl .nil) rfl (fun x93=>(n_ [([4],[])] rfl)) fun x93=>JR.loud rfl rfl rfl (aI.call Hs (oI U r77 w78) rfl (mC 5 rfl) (fun _ _=>rfl) (fun _ _=>rfl)) rfl (fun⟨x94a,x94b,z80,hz95⟩=>(n_ [([4],[])] rfl)) fun⟨x94a,x94b,z80,hz95⟩=>?_
   have h:=yD h z80 hz95
   refine bnE h fun r82 w83 h=>JR.loud rfl rfl rfl (aI.callQ FC (pU U v4 r82 w83) rfl (nE [7] rfl)) rfl (fun x96=>(n_ [([5],[])] rfl)) fun x96=>bnE h fun r85 w86 h=>JR.loud rfl rfl rfl (aI.callQ FB (pT U x94a x94b x4.1 x4.2.1 (List.zip x4.2.2 r2.2) x13.1 (List.zip x13.2 r11) x96 r85 w86) rfl (aD.cons (aC.fact 0 rfl) (aD.cons (aC.fact 1 rfl) (aD.cons (aC.fact 2 rfl) (aD.cons (aR (aC.res 6 rfl) cH) (aD.cons (bA (i:=7) (j:=8) rfl rfl bK) (aD.cons (bA (i:=2) (j:=3) rfl rfl cH) (aD.cons (aR (aC.res 0 rfl) jU) (nE [8] rfl))))))))) rfl (fun x97=>(n_ [] rfl)) fun x97=>jqN rfl (jS rfl)<|jqN rfl (iJ rfl rfl)<|jqN rfl (iJ rfl rfl)<|JR.loud rfl rfl rfl (aI.alloc (cs:=Bv) rfl rfl) rfl (fun b98=>(n_ [([10],[])] rfl)) fun b98=>bS (Know.one ((aR (aC.res 1 rfl) jU))) fun ho100=>bS (Know.one ((aR (aC.res 2 rfl) jU))) fun ho101=>bS (Know.one (aC.sl (bA (i:=3) (j:=4) rfl rfl cH))) fun ho102=>qW rfl rfl rfl (qX 0 (vs:=[x97.1,x97.2.1,x97.2.2.1,vI (r85.1.2.2.2.1),vI (r85.1.2.2.2.2.1),vI (r85.1.2.2.2.2.2.1),vI (r85.1.2.2.2.2.2.2.1),vU (r85.1.2.2.2.2.2.2.2)]) rfl rfl (cM ho100 (cM ho101 (cM ho102 (cM rfl (cM rfl (cM rfl (cM rfl (cM rfl rfl)))))))) rfl rfl rfl) (fun x99=>(n_ [] rfl)) fun x99=>bN 13 rfl rfl<|qkAsg rfl<|dtN ?_
   exact cE (r85.2,r85.1.2.2.2.1,r85.1.2.2.2.2.1,r85.1.2.2.2.2.2.1,r85.1.2.2.2.2.2.2.1,r85.1.2.2.2.2.2.2.2,r85.1.1,r85.1.2.1,r85.1.2.2.1) (b98,x97.1,x97.2.1,x97.2.2.1,x97.2.2.2) h SF (aT.ix [0,1,2,3,4,6,7,8] rfl rfl) (nE [3,4,5,6,7,8] rfl)
  ·refine jkLdA 4 rfl<|jkMove rfl<|jkMove rfl<|jkMove rfl<|JR.loud rfl rfl rfl (aI.callQ Kc (wR U  r74 w75) rfl .nil) rfl (fun x103=>(n_ [([4],[])] rfl)) fun x103=>JR.loud rfl rfl rfl (aI.call Hs (oI U r77 w78) rfl (mC 5 rfl) (fun _ _=>rfl) (fun _ _=>rfl)) rfl (fun⟨x104a,x104b,z80,hz105⟩=>(n_ [([4],[])] rfl)) fun⟨x104a,x104b,z80,hz105⟩=>?_
   have h:=yD h z80 hz105
   refine bnE h fun r82 w83 h=>JR.loud rfl rfl rfl (aI.callQ FC (pU U v4 r82 w83) rfl (nE [7] rfl)) rfl (fun x106=>(n_ [([5],[])] rfl)) fun x106=>JR.loud rfl rfl rfl (aI.alloc (cs:=Bv) rfl rfl) rfl (fun b107=>(n_ [([6],[])] rfl)) fun b107=>bnE h fun r85 w86 h=>JR.loud rfl rfl rfl (aI.callQ FB (pT U x104a x104b x4.1 x4.2.1 (List.zip x4.2.2 r2.2) x13.1 (List.zip x13.2 r11) x106 r85 w86) rfl (aD.cons (aC.fact 0 rfl) (aD.cons (aC.fact 1 rfl) (aD.cons (aC.fact 2 rfl) (aD.cons (aR (aC.res 7 rfl) cH) (aD.cons (bA (i:=8) (j:=9) rfl rfl bK) (aD.cons (bA (i:=3) (j:=4) rfl rfl cH) (aD.cons (aR (aC.res 1 rfl) jU) (nE [8] rfl))))))))) rfl (fun x108=>(n_ [] rfl)) fun x108=>jqN rfl (jS rfl)<|jqN rfl (iJ rfl rfl)<|jqN rfl (iJ rfl rfl)<|bS (Know.one ((aR (aC.res 0 rfl) jU))) fun ho110=>bS (Know.one ((aR (aC.res 1 rfl) jU))) fun ho111=>bS (Know.one (aC.sl (bA (i:=2) (j:=3) rfl rfl cH))) fun ho112=>qW rfl rfl rfl (qX 4 (vs:=[x108.1,x108.2.1,x108.2.2.1,vI (r85.1.2.2.2.1),vI (r85.1.2.2.2.2.1),vI (r85.1.2.2.2.2.2.1),vI (r85.1.2.2.2.2.2.2.1),vU (r85.1.2.2.2.2.2.2.2)]) rfl rfl (cM ho110 (cM ho111 (cM ho112 (cM rfl (cM rfl (cM rfl (cM rfl (cM rfl rfl)))))))) rfl rfl rfl) (fun x109=>(n_ [] rfl)) fun x109=>bN 13 rfl rfl<|qkAsg rfl<|dtN ?_
   exact cE (r85.2,r85.1.2.2.2.1,r85.1.2.2.2.2.1,r85.1.2.2.2.2.2.1,r85.1.2.2.2.2.2.2.1,r85.1.2.2.2.2.2.2.2,r85.1.1,r85.1.2.1,r85.1.2.2.1) (b107,x108.1,x108.2.1,x108.2.2.1,x108.2.2.2) h SF (aT.ix [4,0,1,2,3,6,7,8] rfl rfl) (nE [3,4,5,6,7,8] rfl)
  ·refine jkLdA 4 rfl<|jkMove rfl<|jkMove rfl<|jkMove rfl<|JR.loud rfl rfl rfl (aI.callQ Kc (wR U  r74 w75) rfl .nil) rfl (fun x113=>(n_ [([4],[])] rfl)) fun x113=>JR.loud rfl rfl rfl (aI.call Hs (oI U r77 w78) rfl (mC 5 rfl) (fun _ _=>rfl) (fun _ _=>rfl)) rfl (fun⟨x114a,x114b,z80,hz115⟩=>(n_ [([4],[])] rfl)) fun⟨x114a,x114b,z80,hz115⟩=>?_
   have h:=yD h z80 hz115
   refine JR.loud rfl rfl rfl (aI.alloc (cs:=Bv) rfl rfl) rfl (fun b116=>(n_ [([5],[])] rfl)) fun b116=>bnE h fun r82 w83 h=>JR.loud rfl rfl rfl (aI.callQ FC (pU U v4 r82 w83) rfl (nE [7] rfl)) rfl (fun x117=>(n_ [([6],[])] rfl)) fun x117=>bnE h fun r85 w86 h=>JR.loud rfl rfl rfl (aI.callQ FB (pT U x114a x114b x4.1 x4.2.1 (List.zip x4.2.2 r2.2) x13.1 (List.zip x13.2 r11) x117 r85 w86) rfl (aD.cons (aC.fact 0 rfl) (aD.cons (aC.fact 1 rfl) (aD.cons (aC.fact 2 rfl) (aD.cons (aR (aC.res 7 rfl) cH) (aD.cons (bA (i:=8) (j:=9) rfl rfl bK) (aD.cons (bA (i:=3) (j:=4) rfl rfl cH) (aD.cons (aR (aC.res 0 rfl) jU) (nE [8] rfl))))))))) rfl (fun x118=>(n_ [] rfl)) fun x118=>jqN rfl (jS rfl)<|jqN rfl (iJ rfl rfl)<|jqN rfl (iJ rfl rfl)<|bS (Know.one ((aR (aC.res 0 rfl) jU))) fun ho120=>bS (Know.one ((aR (aC.res 1 rfl) jU))) fun ho121=>bS (Know.one (aC.sl (bA (i:=2) (j:=3) rfl rfl cH))) fun ho122=>qW rfl rfl rfl (qX 5 (vs:=[x118.1,x118.2.1,x118.2.2.1,vI (r85.1.2.2.2.1),vI (r85.1.2.2.2.2.1),vI (r85.1.2.2.2.2.2.1),vI (r85.1.2.2.2.2.2.2.1),vU (r85.1.2.2.2.2.2.2.2)]) rfl rfl (cM ho120 (cM ho121 (cM ho122 (cM rfl (cM rfl (cM rfl (cM rfl (cM rfl rfl)))))))) rfl rfl rfl) (fun x119=>(n_ [] rfl)) fun x119=>bN 13 rfl rfl<|qkAsg rfl<|dtN ?_
   exact cE (r85.2,r85.1.2.2.2.1,r85.1.2.2.2.2.1,r85.1.2.2.2.2.2.1,r85.1.2.2.2.2.2.2.1,r85.1.2.2.2.2.2.2.2,r85.1.1,r85.1.2.1,r85.1.2.2.1) (b116,x118.1,x118.2.1,x118.2.2.1,x118.2.2.2) h SF (aT.ix [5,0,1,2,3,6,7,8] rfl rfl) (nE [3,4,5,6,7,8] rfl)
  ·refine jkLdA 4 rfl<|jkMove rfl<|jkMove rfl<|jkMove rfl<|JR.loud rfl rfl rfl (aI.callQ Kc (wR U  r74 w75) rfl .nil) rfl (fun x123=>(n_ [([4],[])] rfl)) fun x123=>JR.loud rfl rfl rfl (aI.alloc (cs:=Bv) rfl rfl) rfl (fun b124=>(n_ [([5],[])] rfl)) fun b124=>JR.loud rfl rfl rfl (aI.call Hs (oI U r77 w78) rfl (mC 5 rfl) (fun _ _=>rfl) (fun _ _=>rfl)) rfl (fun⟨x125a,x125b,z80,hz126⟩=>(n_ [([5],[])] rfl)) fun⟨x125a,x125b,z80,hz126⟩=>?_
   have h:=yD h z80 hz126
   refine bnE h fun r82 w83 h=>JR.loud rfl rfl rfl (aI.callQ FC (pU U v4 r82 w83) rfl (nE [7] rfl)) rfl (fun x127=>(n_ [([6],[])] rfl)) fun x127=>bnE h fun r85 w86 h=>JR.loud rfl rfl rfl (aI.callQ FB (pT U x125a x125b x4.1 x4.2.1 (List.zip x4.2.2 r2.2) x13.1 (List.zip x13.2 r11) x127 r85 w86) rfl (aD.cons (aC.fact 0 rfl) (aD.cons (aC.fact 1 rfl) (aD.cons (aC.fact 2 rfl) (aD.cons (aR (aC.res 7 rfl) cH) (aD.cons (bA (i:=8) (j:=9) rfl rfl bK) (aD.cons (bA (i:=3) (j:=4) rfl rfl cH) (aD.cons (aR (aC.res 0 rfl) jU) (nE [8] rfl))))))))) rfl (fun x128=>(n_ [] rfl)) fun x128=>jqN rfl (jS rfl)<|jqN rfl (iJ rfl rfl)<|jqN rfl (iJ rfl rfl)<|bS (Know.one ((aR (aC.res 0 rfl) jU))) fun ho130=>bS (Know.one ((aR (aC.res 1 rfl) jU))) fun ho131=>bS (Know.one (aC.sl (bA (i:=2) (j:=3) rfl rfl cH))) fun ho132=>qW rfl rfl rfl (qX 5 (vs:=[x128.1,x128.2.1,x128.2.2.1,vI (r85.1.2.2.2.1),vI (r85.1.2.2.2.2.1),vI (r85.1.2.2.2.2.2.1),vI (r85.1.2.2.2.2.2.2.1),vU (r85.1.2.2.2.2.2.2.2)]) rfl rfl (cM ho130 (cM ho131 (cM ho132 (cM rfl (cM rfl (cM rfl (cM rfl (cM rfl rfl)))))))) rfl rfl rfl) (fun x129=>(n_ [] rfl)) fun x129=>bN 13 rfl rfl<|qkAsg rfl<|dtN ?_
   exact cE (r85.2,r85.1.2.2.2.1,r85.1.2.2.2.2.1,r85.1.2.2.2.2.2.1,r85.1.2.2.2.2.2.2.1,r85.1.2.2.2.2.2.2.2,r85.1.1,r85.1.2.1,r85.1.2.2.1) (b124,x128.1,x128.2.1,x128.2.2.1,x128.2.2.2) h SF (aT.ix [5,0,1,2,3,6,7,8] rfl rfl) (nE [3,4,5,6,7,8] rfl)
  refine jkLdA 4 rfl<|jkMove rfl<|jkMove rfl<|jkMove rfl<|JR.loud rfl rfl rfl (aI.alloc (cs:=Bv) rfl rfl) rfl (fun b133=>(n_ [([5],[])] rfl)) fun b133=>JR.loud rfl rfl rfl (aI.callQ Kc (wR U  r74 w75) rfl .nil) rfl (fun x134=>(n_ [([5],[])] rfl)) fun x134=>JR.loud rfl rfl rfl (aI.call Hs (oI U r77 w78) rfl (mC 5 rfl) (fun _ _=>rfl) (fun _ _=>rfl)) rfl (fun⟨x135a,x135b,z80,hz136⟩=>(n_ [([5],[])] rfl)) fun⟨x135a,x135b,z80,hz136⟩=>?_
  have h:=yD h z80 hz136
  refine bnE h fun r82 w83 h=>JR.loud rfl rfl rfl (aI.callQ FC (pU U v4 r82 w83) rfl (nE [7] rfl)) rfl (fun x137=>(n_ [([6],[])] rfl)) fun x137=>bnE h fun r85 w86 h=>JR.loud rfl rfl rfl (aI.callQ FB (pT U x135a x135b x4.1 x4.2.1 (List.zip x4.2.2 r2.2) x13.1 (List.zip x13.2 r11) x137 r85 w86) rfl (aD.cons (aC.fact 0 rfl) (aD.cons (aC.fact 1 rfl) (aD.cons (aC.fact 2 rfl) (aD.cons (aR (aC.res 7 rfl) cH) (aD.cons (bA (i:=8) (j:=9) rfl rfl bK) (aD.cons (bA (i:=3) (j:=4) rfl rfl cH) (aD.cons (aR (aC.res 0 rfl) jU) (nE [8] rfl))))))))) rfl (fun x138=>(n_ [] rfl)) fun x138=>jqN rfl (jS rfl)<|jqN rfl (iJ rfl rfl)<|jqN rfl (iJ rfl rfl)<|bS (Know.one ((aR (aC.res 0 rfl) jU))) fun ho140=>bS (Know.one ((aR (aC.res 1 rfl) jU))) fun ho141=>bS (Know.one (aC.sl (bA (i:=2) (j:=3) rfl rfl cH))) fun ho142=>qW rfl rfl rfl (qX 5 (vs:=[x138.1,x138.2.1,x138.2.2.1,vI (r85.1.2.2.2.1),vI (r85.1.2.2.2.2.1),vI (r85.1.2.2.2.2.2.1),vI (r85.1.2.2.2.2.2.2.1),vU (r85.1.2.2.2.2.2.2.2)]) rfl rfl (cM ho140 (cM ho141 (cM ho142 (cM rfl (cM rfl (cM rfl (cM rfl (cM rfl rfl)))))))) rfl rfl rfl) (fun x139=>(n_ [] rfl)) fun x139=>bN 13 rfl rfl<|qkAsg rfl<|dtN ?_
  exact cE (r85.2,r85.1.2.2.2.1,r85.1.2.2.2.2.1,r85.1.2.2.2.2.2.1,r85.1.2.2.2.2.2.2.1,r85.1.2.2.2.2.2.2.2,r85.1.1,r85.1.2.1,r85.1.2.2.1) (b133,x138.1,x138.2.1,x138.2.2.1,x138.2.2.2) h SF (aT.ix [5,0,1,2,3,6,7,8] rfl rfl) (nE [3,4,5,6,7,8] rfl)
 intro a31 b32 h
 refine aH<|aH<|midU (fun a34=>f_ U r11 r14 a31 a34=some r) (fun a34 b35=>[(10,x13.1),(11,x16),(12,vP b32.1),(58,vB (a34))]) (fun a34 b35=>[bM b32.1 [b32.2.1,b32.2.2.1,b32.2.2.2.1,vI (a31.2.1),vI (a31.2.2.1),vI (a31.2.2.2.1),vI (a31.2.2.2.2.1),vU (a31.2.2.2.2.2.1)] 44,Ar iV b32.2.1 a31.2.2.2.2.2.2.1,Ar iV b32.2.2.1 a31.2.2.2.2.2.2.2.1,Ar c_.raw b32.2.2.2.1 b32.2.2.2.2,jK bU b32.2.2.2.2 a31.2.2.2.2.2.2.2.2,Ar bU x16 r14,Ar c_.raw x13.1 x13.2,jK bU x13.2 r11]) ?_ ?_
 ·refine aM<|qkMove rfl<|qkNeq rfl<|qkMove rfl ?_
  refine B_ h rfl (fun _ h=>?_) fun _ h=>?_
  ·refine gdSkip rfl<|gdSkip rfl<|gdSkip rfl<|gdSkip rfl<|gdSkip rfl<|qkPkT rfl<|qkMove rfl<|gdSkip rfl<|gdSkip rfl<|gdSkip rfl<|gdSkip rfl<|gdSkip rfl<|gdSkip rfl<|qkPkT rfl<|qkMove rfl<|gdSkip rfl<|gdSkip rfl<|gdSkip rfl<|gdSkip rfl<|qkPkT rfl<|dtN ?_
   exact jA (true) () h SF rfl
  refine gyMove rfl<|aO rfl (fI rfl (aR (aC.res 5 rfl) cH) rfl) rfl<|gyMove rfl<|aO rfl (hZ rfl (bA (i:=6) (j:=7) rfl rfl cH) rfl) rfl<|aO rfl (Bz rfl rfl) rfl<|qkPkF rfl<|qkMove rfl ?_
  refine B_ h rfl (fun _ h=>?_) fun _ h=>?_
  ·refine gdSkip rfl<|gdSkip rfl<|gdSkip rfl<|gdSkip rfl<|gdSkip rfl<|gdSkip rfl<|qkPkT rfl<|qkMove rfl<|gdSkip rfl<|gdSkip rfl<|gdSkip rfl<|gdSkip rfl<|qkPkT rfl<|dtN ?_
   exact jA (true) () h SF rfl
  refine aO rfl (cP rfl rfl rfl rfl rfl) rfl<|aO rfl (dD 0 rfl rfl rfl rfl rfl) rfl<|aO rfl (hZ rfl (bA (i:=3) (j:=4) rfl rfl cH) rfl) rfl<|gyMove rfl<|aO rfl (hZ rfl (bA (i:=6) (j:=7) rfl rfl cH) rfl) rfl<|aO rfl (Bz rfl rfl) rfl<|qkPkF rfl<|qkMove rfl ?_
  refine B_ h rfl (fun _ h=>?_) fun _ h=>?_
  ·refine gdSkip rfl<|gdSkip rfl<|gdSkip rfl<|gdSkip rfl<|qkPkT rfl<|dtN ?_
   exact jA (true) () h SF rfl
  refine aO rfl (cP rfl rfl rfl rfl rfl) rfl<|aO rfl (dD 0 rfl rfl rfl rfl rfl) rfl<|aO rfl (fI rfl (aR (aC.res 2 rfl) jU) rfl) rfl<|aO rfl (Hp rfl rfl) rfl<|qkPkF rfl<|dtN ?_
  exact jA (decide ((List.length a31.2.2.2.2.2.2.2.1:Int)=(0:Int))) () h SF rfl
 intro a34 b35 h
 refine Ah h rfl (fun _ h=>?_) fun _ h=>?_
 ·refine sqR<|qkAsg rfl<|dtN<|aQ<|aG ?_
  cases h
  exact uV rfl
 refine cG<|aH<|midU (fun a37=>lR U r11 a31 a37=some r) (fun a37 b38=>[(10,x13.1),(12,vP b32.1)]) (fun a37 b38=>[bM b32.1 [b32.2.1,b32.2.2.1,b32.2.2.2.1,vI (a31.2.1),vI (a31.2.2.1),vI (a31.2.2.2.1),vI (a31.2.2.2.2.1),vU (a31.2.2.2.2.2.1)] 44,Ar iV b32.2.1 a31.2.2.2.2.2.2.1,Ar iV b32.2.2.1 a31.2.2.2.2.2.2.2.1,Ar c_.raw b32.2.2.2.1 b32.2.2.2.2,jK bU b32.2.2.2.2 a31.2.2.2.2.2.2.2.2,Ar c_.raw x13.1 x13.2,jK bU x13.2 r11]) ?_ ?_
 ·refine sqR<|qkAsg rfl<|dtN<|aN<|loopL (dJ U r11 r14 a31) (fun a48 b49=>[(10,x13.1),(11,x16),(12,vP b32.1),(14,vI (a48))]) (fun a48 b49=>[bM b32.1 [b32.2.1,b32.2.2.1,b32.2.2.2.1,vI (a31.2.1),vI (a31.2.2.1),vI (a31.2.2.2.1),vI (a31.2.2.2.2.1),vU (a31.2.2.2.2.2.1)] 44,Ar iV b32.2.1 a31.2.2.2.2.2.2.1,Ar iV b32.2.2.1 a31.2.2.2.2.2.2.2.1,Ar c_.raw b32.2.2.2.1 b32.2.2.2.2,jK bU b32.2.2.2.2 a31.2.2.2.2.2.2.2.2,Ar bU x16 r14,Ar c_.raw x13.1 x13.2,jK bU x13.2 r11]) (0:Int) () h SF (aT.refl _) ?_
  intro k50 a48 b49 h
  refine aH<|aH<|midU (fun a52=>gA U r11 r14 a31 a48 (bD (dJ U r11 r14 a31) k50) a52=some r) (fun a52 b53=>[(10,x13.1),(11,x16),(12,vP b32.1),(14,vI (a48)),(73,vB (a52))]) (fun a52 b53=>[bM b32.1 [b32.2.1,b32.2.2.1,b32.2.2.2.1,vI (a31.2.1),vI (a31.2.2.1),vI (a31.2.2.2.1),vI (a31.2.2.2.2.1),vU (a31.2.2.2.2.2.1)] 44,Ar iV b32.2.1 a31.2.2.2.2.2.2.1,Ar iV b32.2.2.1 a31.2.2.2.2.2.2.2.1,Ar c_.raw b32.2.2.2.1 b32.2.2.2.2,jK bU b32.2.2.2.2 a31.2.2.2.2.2.2.2.2,Ar bU x16 r14,Ar c_.raw x13.1 x13.2,jK bU x13.2 r11]) ?_ ?_
  ·refine aM<|qkMove rfl<|qkMove rfl<|aB (hZ rfl (bA (i:=6) (j:=7) rfl rfl cH) rfl) rfl<|qkLss rfl<|qkMove rfl ?_
   refine B_ h rfl (fun _ h=>?_) fun _ h=>?_
   ·refine aO rfl (cP rfl rfl rfl rfl rfl) rfl<|aO rfl (dD 0 rfl rfl rfl rfl rfl) rfl<|aO rfl (cP rfl rfl rfl rfl rfl) rfl<|aO rfl (dD 0 rfl rfl rfl rfl rfl) rfl<|aO rfl (fI rfl (aR (aC.res 2 rfl) jU) rfl) rfl<|aO rfl (oQ rfl rfl) rfl<|ckE h fun j70 h=>aO rfl (aY rfl rfl (aR (aC.res 2 rfl) jU) rfl rfl j70) rfl<|aO rfl (bR rfl (aR (aC.res 2 rfl) jU) rfl rfl rfl BR j70) rfl<|aO rfl (Hp rfl rfl) rfl<|qkPkT rfl<|dtN ?_
    exact jA (decide ((at' a31.2.2.2.2.2.2.2.1 (wI .i64 ((List.length a31.2.2.2.2.2.2.2.1:Int) - (1:Int))))=(0:Int))) () h SF rfl
   refine gdSkip rfl<|gdSkip rfl<|gdSkip rfl<|gdSkip rfl<|gdSkip rfl<|gdSkip rfl<|gdSkip rfl<|gdSkip rfl<|gdSkip rfl<|qkPkF rfl<|dtN ?_
   exact jA (false) () h SF rfl
  intro a52 b53 h
  refine Ah h rfl (fun _ h=>?_) fun _ h=>?_
  ·refine cG<|aH<|aN<|aH<|midU (fun a56=>lS a48 (bD (dJ U r11 r14 a31) k50) a56=some r) (fun a56 b57=>[(10,x13.1),(11,x16),(12,vP b32.1),(14,vI (a48)),(96,vB (a56))]) (fun a56 b57=>[bM b32.1 [b32.2.1,b32.2.2.1,b32.2.2.2.1,vI (a31.2.1),vI (a31.2.2.1),vI (a31.2.2.2.1),vI (a31.2.2.2.2.1),vU (a31.2.2.2.2.2.1)] 44,Ar iV b32.2.1 a31.2.2.2.2.2.2.1,Ar iV b32.2.2.1 a31.2.2.2.2.2.2.2.1,Ar c_.raw b32.2.2.2.1 b32.2.2.2.2,jK bU b32.2.2.2.2 a31.2.2.2.2.2.2.2.2,Ar bU x16 r14,Ar c_.raw x13.1 x13.2,jK bU x13.2 r11]) ?_ ?_
   ·refine JR.start [0,1,0,7,15,31,63,127,255,511,255,2047,4095,8191,16383,255,255,98559,229631,524287,1048575] 19 mixedOrders (by decide +kernel) ?_
    refine JR.open (by exact rfl) ?_
    refine jkFld rfl<|jkLd 0 rfl<|jkMove rfl<|ckE h fun j59 h=>bS (cC 4 rfl) fun hl60=>?_
    refine bG rfl (aT.cons 3 rfl .nil) .nil (fV 0 rfl rfl rfl rfl rfl j59.1 (by have q1:=j59.2;have q2:=hl60;(try simp only[List.length_set]at q1);(try simp only[List.length_set]at q2);(try simp only[List.length_set]);omega)) aK.z ?_
    refine bS (cC 4 rfl) fun hl61=>bG rfl (aT.cons 3 rfl .nil) .nil (kF 0 rfl rfl hl61 rfl rfl j59) aK.z<|bG rfl (aT.cons 4 rfl .nil) .nil (fI rfl (aC.row (j:=0) rfl cH j59.1 j59.2) rfl) aK.z<|jqN rfl (Bz rfl rfl)<|jkMove rfl ?_
    refine Hi (by exact rfl) (by exact rfl) (by exact rfl) (fun hp62=>?_) (fun hp62=>?_)
    ·have h:=Rx hp62 h
     refine dM rfl rfl rfl rfl<|dM rfl rfl rfl rfl<|dM rfl rfl rfl rfl<|dM rfl rfl rfl rfl<|dM rfl rfl rfl rfl<|dM rfl rfl rfl rfl<|dM rfl rfl rfl rfl<|dM rfl rfl rfl rfl<|dM rfl rfl rfl rfl<|dM rfl rfl rfl rfl<|dM rfl rfl rfl rfl<|bN 19 rfl rfl<|gdSkip rfl<|qkPkT rfl<|dtN ?_
     exact jA (true) () h SF rfl
    have h:=XZ hp62 h
    refine kA rfl .nil .nil (cP rfl rfl rfl rfl rfl) aK.z<|kA rfl (aT.cons 0 rfl .nil) .nil (dD 0 rfl rfl rfl rfl rfl) aK.z<|kA rfl .nil .nil (jS rfl) aK.z<|ckE h fun j63 h=>bS (cC 4 rfl) fun hl64=>?_
    refine kA rfl (aT.cons 3 rfl .nil) .nil (fV 0 rfl rfl rfl rfl rfl j63.1 (by have q1:=j63.2;have q2:=hl64;(try simp only[List.length_set]at q1);(try simp only[List.length_set]at q2);(try simp only[List.length_set]);omega)) aK.z ?_
    refine bS (cC 4 rfl) fun hl65=>kA rfl (aT.cons 3 rfl .nil) .nil (kF 0 rfl rfl hl65 rfl rfl j63) aK.z<|ckE h fun j66 h=>bS (Know.len (aC.row (j:=4) rfl cH j63.1 j63.2)) fun hl67=>kA rfl .nil .nil (Fy rfl rfl hl67 rfl rfl j66) aK.z<|kA rfl (aT.cons 4 rfl .nil) .nil (bR rfl (aC.row (j:=0) rfl cH j63.1 j63.2) rfl rfl rfl dN j66) aK.z<|kA rfl .nil .nil (jS rfl) aK.z<|kA rfl .nil .nil (jS rfl) aK.z<|ckE h fun j68 h=>kA rfl (aT.cons 5 rfl .nil) .nil (aY rfl rfl (aR (aC.res 0 rfl) cH) rfl rfl j68) aK.z<|kA rfl (aT.cons 5 rfl .nil) .nil (bR rfl (aR (aC.res 0 rfl) cH) rfl rfl rfl dN j68) aK.z<|bN 19 rfl rfl<|aO rfl (Bz rfl rfl) rfl<|qkPkF rfl<|dtN ?_
    exact jA (decide ((at' (at' a31.2.2.2.2.2.2.2.2 a48) (0:Int))≠(at' r14 a48))) () h SF rfl
   intro a56 b57 h
   refine Ah h rfl (fun _ h=>?_) fun _ h=>?_
   ·refine sqR<|qkAsg rfl<|dtN<|aQ<|bH<|aG<|aG<|bH<|aG ?_
    cases h
    exact uV rfl
   refine cS<|inT<|aM<|qkMove rfl<|qkAdd rfl<|qkAsg rfl<|dtN ?_
   exact yB (wI .i64 (a48+(1:Int))) () h SF rfl
  refine Go.Sx.vT ?_
  exact cE () (()) h SF (aT.ix [0,1,2,3,4,6,7] rfl rfl) (aD.refl _ _)
 intro a37 b38 h
 refine aH<|midU (fun a40=>jG  a40=some r) (fun a40 b41=>[(8,vB (a40))]) (fun a40 b41=>[]) ?_ ?_
 ·refine aM<|bnE h fun r42 w43 h=>aE (aI.callQ QA (He U  r42 w43) rfl (nE [5] rfl)) rfl fun x44=>qkMove rfl ?_
  refine Cq (by exact rfl) (by exact rfl) (fun hp45=>?_) (fun hp45=>?_)
  ·have h:=Rx hp45 h
   refine aO rfl (cP rfl rfl rfl rfl rfl) rfl<|aO rfl (cP rfl rfl rfl rfl rfl) rfl<|aO rfl (dD 0 rfl rfl rfl rfl rfl) rfl<|gyMove rfl<|aO rfl (hZ rfl (bA (i:=5) (j:=6) rfl rfl cH) rfl) rfl<|aO rfl (sO rfl rfl) rfl<|aO rfl (yA rfl rfl) rfl<|qkPkT rfl<|qkAsg rfl<|dtN ?_
   exact cE (decide (a31.2.2.2.2.1<=(wI .i64 ((List.length r11:Int)+(1:Int))))) () h SF .nil (aD.refl _ _)
  have h:=Rv hp45 h
  refine gdSkip rfl<|gdSkip rfl<|gdSkip rfl<|gdSkip rfl<|gdSkip rfl<|gdSkip rfl<|gdSkip rfl<|qkPkF rfl<|qkAsg rfl<|dtN ?_
  exact cE (false) () h SF .nil (aD.refl _ _)
 intro a40 b41 h
 unfold jG at h
 refine aQ ?_
 cases h
 exact lF rfl
end Go.Proofs.YtigggfnchamobaaGreatDoor
end
section
namespace Go.Proofs.YtigggfnchamobaaGreatDoor
open Go Go.Sx
theorem WV {g:GR} (hV:VM g.1 g.2) (h:∀v:Nat,1<=v->v<g.2.length->∃u:Nat,u<v∧kJ g.2 u v):PQ g:=by
 have hg:VG g:=hV.vg
 have h1:=hg.n1
 have w0:∀v,v<g.2.length->∃k,uY g 0 k v:=by
  intro v
  induction v using Nat.strongRecOn with
  | _ v ih =>
   intro hv
   by_cases h0:v=0
   ·subst h0;exact⟨0,rfl,hv⟩
   ·obtain⟨u,hu,x,hx,he⟩:=h v (by omega) hv
    obtain⟨k,hw⟩:=ih u hu (by omega)
    obtain⟨i,hi,hie⟩:=AW hx
    refine⟨k+1,u,hw,i,hi,?_⟩
    show(at' (at' g.2 (u:Int)) (i:Int)).1=_
    rw[hie,he]
 intro u v hu hv
 obtain⟨a,ha⟩:=w0 u hu
 obtain⟨b,hb⟩:=w0 v hv
 exact⟨a+b,(Fu hg ha).trans hb⟩
theorem Zu:∀x,x<fU.length->Aq (at' fU (x:Int)) ∧ -100000<=(at' fU (x:Int)).2.2.1∧(at' fU (x:Int)).2.2.1<=(at' fU (x:Int)).2.2.2.1:=by
 intro x hx
 refine⟨NW x hx,?_⟩
 have hx:x<2:=hx
 match x,hx with
 |0,_=>exact⟨by decide,by decide⟩
 |1,_=>exact⟨by decide,by decide⟩
theorem KM (x:Ot) (raw:aL) (p2:Int) (wishes:aL) (h0:0<=p2) (h1:p2<4294967296):qP 1000 x raw p2 wishes=some true:=by
 obtain⟨d,rfl⟩:∃d:Nat,p2=d:=⟨p2.toNat,by omega⟩
 have hd:d<4294967296:=by omega
 obtain⟨g,hg,hVM,hn8,hT⟩:=IA x 8 (by omega) (by omega)
 have hV:VG g:=hVM.vg
 have h24:=hV.n24
 have hn1:=hV.n1
 have hF:Zv g:=⟨hV,WV hVM hT⟩
 obtain⟨c0,hc,hc0⟩:=OM hV fU raw (by decide) Zu
 have hCf:=(Zh hV).1 hc0
 obtain⟨l,hs,hcm,hl⟩:=GX hd hF hCf
 have hW:Ox g c0 d (D l):=VC ⟨hV,hCf⟩ hs hcm
 have hll:=hs.len
 have hl0:=hc0.len
 obtain⟨ws,hws,hwl,hwb⟩:=PE wishes (n:=120) (by omega)
 obtain⟨lv,hlv,hlv32,hlvb⟩:=QQ hd
 unfold qP
 rw[show gE 1000 (x.1,x.2.1,x.2.2.1,x.2.2.2.1,x.2.2.2.2.1,x.2.2.2.2.2) 8=some g from hg,bE rfl,XR,bE rfl,show kY 1000 (g.1,g.2) fU raw=some c0 from hc,bE rfl,bE (show jP 1000 (g.1,g.2) c0 (d:Int)=some l from hl),bE (show zE 1000=some Cc from rfl)]
 rw[bE (So 1000)]
 refine TJ fun z hz=> ?_
 have hz:z.map wV=FN RB:=hz
 let p:Dr:=(ByteArray.mk #[98,102,115],fU,z)
 rw[bE (show nH 1000 wishes (120:Int)=some ws from hws)]
 obtain⟨k,c,ch,cnt,ens,hrun,hI,hsh,hk,hchl,hel,hea,hend⟩:=OU (p:=p) hV (Zs hV) hz Vm (kind:=3) (by omega) (by omega) hc0 hlv32 (ws:=ws) (by omega) hwb
  (fun k c ch cnt=>∃R B pe,Tn p g d lv (D l) k c cnt R B pe) ⟨_,_,_,XM hV hW hlvb hc0 fun v hv hdv=>((hW.dead v hv hdv).symm)⟩
  (fun k c ch cnt t cnt' err hk hsh hI hne ht0 hsub _ _ hadd=>by
   obtain⟨R,B,pe,hI⟩:=hI
   obtain⟨R',B',pe',h,_⟩:=Zm hV hW hlvb (by omega) hI hne ht0 hsub hadd
   exact⟨R',B',pe',h⟩)
 obtain⟨R,B,pe,hI⟩:=hI
 have hf:sX 1000 p (g.1,g.2) 3 c0 (d:Int) ws=some ((IK ch,ens,c,cnt),0):=by
  unfold sX
  rw[hlv,bE (show kW 1000 _ _ 3 c0 (lv:Int) ws=_ from hrun)]
 refine(bE hf).trans ?_
 have hcl:=hsh.len
 unfold pM
 dsimp only
 rw[if_neg (by decide),if_neg (by rw[hll,hl0];simp),if_neg (by rw[hcl,hl0];simp),decide_eq_false (show¬(ens.length:Int)=0 by omega)]
 unfold f_
 rw[if_neg (by decide)]
 have hw1:wI .i64 ((ens.length:Int) - 1)=(k:Int):=by rw[wr (by omega) (by omega)];omega
 have hfinal:lR 1000 c0 ((0:Int),cnt.1,cnt.2.1,cnt.2.2.1,cnt.2.2.2.1,cnt.2.2.2.2,IK ch,ens,c) ()=some true:=by
  unfold lR jG
  rw[bE (show xT 1000=some true from rfl),if_pos rfl]
  have hb:=hI.cnt.begun
  have:=hI.bg
  dsimp only
  rw[hb,hl0,eB (by omega),decide_eq_true (by omega)]
 by_cases hen0:vQ (bJ p g) RB lv c=0
 ·have hset:∀v,v<g.2.length->zZ c v=D l v:=fun v hv=>Vp hV hW hI.r hI.dead (fun u hu hdu=>DO (p:=p) hlvb hV hu hdu (by rw[hen0];exact Nat.zero_testBit u)) hv
  refine dX (step:=dJ 1000 c0 l _) (K:=some true) g.2.length (fun v=>(v:Int)) (fun v ag hv=> ?_) (fun ag=> ?_) 1000 (by omega)
  ·have hrow:(at' c (v:Int)).length=2:=hI.r.row v hv
   unfold dJ gA lS
   dsimp only
   rw[if_pos (by omega),hw1,cL (by omega),hea,hen0,decide_eq_true (show((0:Nat):Int)=0 from rfl),if_pos rfl,cL (by omega),if_neg (by rw[hrow];simp),cL (by omega),cL (by omega),cL (by omega),decide_eq_false (show¬at' (at' c (v:Int)) 0≠at' l (v:Int)from fun q=>q (hset v hv)),eB (by omega)]
   rfl
  ·unfold dJ gA
   dsimp only
   rw[if_neg (by omega),if_neg (by decide)]
   exact hfinal
 ·refine dX (step:=dJ 1000 c0 l _) (K:=some true) 0 (fun v=>(v:Int)) (fun v ag hv=>absurd hv (Nat.not_lt_zero v)) (fun ag=> ?_) 1000 (by omega)
  unfold dJ gA
  dsimp only
  rw[if_pos (by omega),hw1,cL (by omega),hea,decide_eq_false (by omega),if_neg (by decide)]
  exact hfinal
end Go.Proofs.YtigggfnchamobaaGreatDoor
end
section
namespace Go.Sx
open Go.RowKit Go.ChangeShapes Go.WideShapes Go.ChangeAt Go.Proofs Go.Joins Go.Deep
section
variable {H:Type} {enc:TypeId×Value->H} {P:Program} {w:World} {base:Nat} {spare:Nat->Bool} {held:Bool}
theorem GY {α:Type} (l:List α) (d:α):l=(List.range l.length).map fun i=>l.getD i d:=by
 apply List.ext_getElem?
 intro i
 by_cases h:i<l.length
 ·simp[h]
 ·simp[h]
theorem Sg {r:Reach} {b0:Nat} {t:TypeId} {fs:Array Field} {v:Value} {d:DataW H} {p:List MemPlace} (hs:P.underlying t=some (.struct fs)) (hone:oneCellFields P fs=true) (hC:P.cellsOf t=fs.size)
  (hv:Value.okWide P w r b0 t v) (h:DataW.Trod enc P w base spare held t v d p):
  ∃(V:Nat->Value) (Y:Nat->DataW H×List MemPlace) (n:Nat),v = .agg ((List.range fs.size).map V).toArray∧∀(i:Nat) (f:Field),fs[i]? = some f->DataW.trod enc P w base spare held n f.type [V i]=some (Y i):=by
 obtain⟨cs,rfl,hsz⟩:=okWide_struct hs hv
 obtain⟨fuel,hf⟩:=h
 obtain⟨xs,n,_,_,_,hlen,hg⟩:=DataW.trod_struct hs hf
 refine⟨fun i=>cs.toList.getD i undef,fun i=>xs.getD i (.nil,[]),n,?_,fun i f hi=> ?_⟩
 ·congr 1
  apply Array.toList_inj.1
  show cs.toList=(List.range fs.size).map fun i=>cs.toList.getD i undef
  have h2:fs.size=cs.toList.length:=by rw[<-hC,<-hsz];rfl
  rw[h2]
  exact GY cs.toList undef
 ·have hlt:i<fs.size:=(Array.getElem?_eq_some_iff.1 hi).1
  obtain⟨o,k⟩:=hone_of hone i f hi
  have g:=hg i f hi
  have hcl:(Value.cells (.agg cs)).toList=cs.toList:=rfl
  have hl:i<cs.toList.length:=by rw[Array.length_toList];omega
  rw[o,k,hcl,take1_drop _ _ undef hl]at g
  rw[g]
  have hx:i<xs.length:=by omega
  simp[hx]
theorem RF {k:IntKind} {e:TypeId} (he:P.underlying e=some (.int k)) {n:Nat} {v:Value} {x:DataW H×List MemPlace} (h:DataW.trod enc P w base spare held n e [v]=some x):∃y:Int,v = .int k y:=by
 obtain⟨y,hy,_,_⟩:=DataW.trod_int he h
 exact⟨y,by simpa using hy⟩
theorem HJ {e:TypeId} (he:P.underlying e=some .bool) {n:Nat} {v:Value} {x:DataW H×List MemPlace} (h:DataW.trod enc P w base spare held n e [v]=some x):∃y:Bool,v = .bool y:=by
 obtain⟨y,hy,_⟩:=DataW.trod_bool he h
 exact⟨y,by simpa using hy⟩
theorem Td {n:Int} (h:(Lit.int .u32 n).wf=true):0<=n∧n<4294967296:=by
 simp only[Lit.wf,Bool.and_eq_true,decide_eq_true_eq]at h
 have e1:IntKind.u32.min=0:=by decide
 have e2:IntKind.u32.max=4294967295:=by decide
 omega
end
end Go.Sx
end
section
set_option maxRecDepth 100000
namespace Go.Sx
open Go.RowKit Go.ChangeShapes Go.WideShapes Go.ChangeAt Go.Proofs Go.Joins
theorem Me {P:Program} {W:World} {n:String} {b m t t':Nat} {k:IntKind} {xs:aL} (h:laidMet P [(n,.agg (xs.map fun x=> .lit (.int k x)))] W) (hg:P.globalNamed n=some b)
  (ht:(P.globals[b]?).map (·.type)=some t) (hu:P.underlying t=some (.array m t')) (hu':P.underlying t'=some (.int k)) (hc:P.cellsOf t'=1) (hcm:P.cellsOf t=m) (hm:0<m):(Gb b (cellsOf (c_.int k) xs)).p W (fun _=>True):=by
 obtain⟨ps,⟨g,t2,cs,fuel,p,q,e1,e2,e3,e4,e5,e6⟩,hnd,hcell⟩:=h
 rw[hg]at e1;cases e1
 rw[ht]at e2;cases e2
 refine⟨trivial,?_⟩
 obtain⟨ys,ml,_,e7,hl,hyl,hf⟩:=DataW.trod_array hu e4
 simp only[Prod.mk.injEq,DataW.agg.injEq]at e7
 have hlen:xs.length=m:=by rw[<-hyl];simpa using congrArg List.length e7.1
 have hcl:cs.size=m:=by rw[<-hcm,<-hl];simp
 have hcs:cs.toList=cellsOf (c_.int k) xs:=by
  refine List.ext_getElem? fun i=> ?_
  by_cases hi:i<m
  ·have h1:=hf i hi
   rw[hc,Nat.mul_one]at h1
   have hx:xs[i]? = some (xs[i]'(by omega)):=List.getElem?_eq_getElem _
   have h2:=sF (c_.int k) xs i _ hx 0 _ rfl
   rw[show i*(c_.int k).sz+0=i from Nat.mul_one i]at h2
   rw[h2]
   have hy:ys[i]? = some (ys[i]'(by omega)):=List.getElem?_eq_getElem _
   rw[hy]at h1
   obtain⟨z,hz,hz2,_⟩:=DataW.trod_int hu' h1
   have hc0:cs.toList[i]? = some (.int k z):=by
    have:=congrArg (·[0]?) hz
    simpa [List.getElem?_take,List.getElem?_drop]using this
   rw[hc0]
   have h3:=congrArg (·[i]?) e7.1
   simp only[List.getElem?_map,hx,hy,Option.map_some,Option.some.injEq]at h3
   rw[hz2]at h3
   have h4:xs[i]=z:=by simpa using h3
   rw[h4]
  ·rw[List.getElem?_eq_none (by simp;omega),List.getElem?_eq_none (by rw[cU,hlen];show m*1<=i;omega)]
 have hmem:MemPlace.cell b 0∈ps:=by
  rw[e6]
  refine List.mem_append_left _ (List.mem_append_left _ ?_)
  exact List.mem_map.2 ⟨0,by simp;omega,rfl⟩
 obtain⟨⟨c,T,hb⟩,_⟩:=hcell b 0 hmem
 refine⟨T,?_⟩
 have h5:c=cs:=by
  have h6:(W.var? P n)=some c:=by unfold World.var?;rw[hg];simp[hb]
  rw[h6]at e3;exact Option.some.inj e3
 rw[hb,h5,<-hcs]
theorem Kr {H:Type} {enc:TypeId×Value->H} {os:Os} (ld:List (String×DataW Unit)) (hpl:(ld.all fun x=>x.2.handleName?.isNone)=true) (started:os.Started) {f:FuncId} {fn:Func} {s:ChangeSpec} {r:Bool} (hfn:Tryz.prog.funcs[f]? = some fn) (noInit:Tryz.prog.inits.idxOf? f=none)
  (hread:(fn.params.toList.all fun t=>Tryz.prog.readableRec t&&decide (t<Tryz.prog.types.size))=true) (hres:fn.resultTypes = #[4]) (hvars:s.vars=[])
  (hspec:∀ds:List (DataW H),ds.length=fn.params.toList.length->s.fn H ds={results:=[.lit (.bool true)],args:=ds})
  (witness:∃(w:World) (tape:Tape) (i:Input),w.os=os∧(w.forCall tape i).Shaped Tryz.prog∧i.vars=[]∧Input.okWide Tryz.prog (w.forCall tape i) .any w.heap.size f i∧
   ((s.pre enc Tryz.prog fn [] false (w.forCall tape i).memory i.args∧laidMetH Tryz.prog ld (w.forCall tape i).memory)∧sizedMet enc Tryz.prog fn (OpenSpec.ofChange s) false (w.forCall tape i).memory i.args)∧({}:Assume).holds Tryz.prog (lone (Frame.enter Tryz.prog f i.args .normal) [] (w.forCall tape i)))
  (main:∀(W:World) (base:Nat) (args:Array Value) (ds:List (DataW H)) (p:List MemPlace),laidMetH Tryz.prog ld W->(∀(j:Nat) t v,fn.params[j]? = some t->args[j]? = some v->Value.okWide Tryz.prog W .any base t v)->
   DataW.TrodAll enc Tryz.prog W 0 (fun _=>true) true fn.params.toList args.toList ds p->Calls Tryz.prog f args W fun e W'=>e = .returned (.bool true)∧Ih W W'):
  ReturnsInHanded {} Go.Proofs.YtigggfnchamobaaGreatDoor.Tryz.pinned.checked os f .any (fun w args=>(s.pre enc Tryz.prog fn [] false w args∧laidMetH Tryz.prog ld w)∧sizedMet enc Tryz.prog fn (OpenSpec.ofChange s) false w args) (s.post enc Tryz.prog fn false r false false):=by
 refine returnsInHanded_of_change_and (C:=Go.Proofs.YtigggfnchamobaaGreatDoor.Tryz.pinned.checked) (X:=fun w _=>laidMetH Tryz.prog ld w) (fun _ _ _ hh h=>by rw[MakeChecks.laidMetH_plain _ _ _ hpl]at h ⊢;exact h.of_heap hh) abv started noInit hfn witness ?_
 intro W base args ds gs before hval hW _ _ hL _
 have hlt:=hW.lt
 have hW':=hW
 obtain⟨p,q,hA,hV,rfl,_,_⟩:=hW
 rw[hvars]at hV
 obtain⟨rfl,rfl⟩:=trodVars_none hV
 refine(main W base args ds p hL hval hA).mono ?_
 rintro e W' ⟨rfl,hb⟩
 refine⟨_,rfl,?_⟩
 have hlen:ds.length=fn.params.toList.length:=by
  have:∀(ts:List TypeId) (vs:gH) (ds:List (DataW H)) (p:List MemPlace),DataW.TrodAll enc Tryz.prog W 0 (fun _=>true) true ts vs ds p->ds.length=ts.length:=by
   intro ts
   induction ts with
   |nil=>intro vs ds p h;cases vs<;>cases ds<;>first|rfl|exact h.elim
   | cons t ts ih =>
    intro vs ds p h
    cases vs with
    |nil=>exact h.elim
    |cons v vs=>
     cases ds with
     |nil=>exact h.elim
     |cons d ds=>obtain⟨_,_,_,h2,_⟩:=h;simp[ih vs ds _ h2]
  exact this _ _ _ _ hA
 have hs:s.fn H (ds++[])={results:=[.lit (.bool true)],args:=ds}:=by rw[List.append_nil];exact hspec ds hlen
 refine⟨ds,[],p++[],[],p,[],hW',?_,?_,?_,hb.frame _,fun h=>by cases h⟩
 ·rw[hs,hres]
  exact trodAll_mk1 (shut_bool Tryz.underlying4 true)
 ·rw[hs]
  exact BK Za hb _ _ _ _ hread hA (fun x hx=>hlt x (List.mem_append_left _ hx))
 ·rw[hs,hvars];exact rfl
theorem Pb {P:Program} {n:String} {k:IntKind} {xs:aL} {W:World} (h:laidMetH P [(n,.agg (xs.map fun x=> .lit (.int k x)))] W):laidMet P [(n,.agg (xs.map fun x=> .lit (.int k x)))] W:=by
 rw[MakeChecks.laidMetH_plain _ _ _ (by rfl)]at h;exact h
end Go.Sx
end
