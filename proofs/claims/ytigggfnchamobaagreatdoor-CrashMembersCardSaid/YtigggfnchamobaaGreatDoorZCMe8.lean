/- Models and proofs. Conditions: none. -/
import Derived.Test.YtigggfnchamobaaGreatDoorZCMe5
import Derived.Test.YtigggfnchamobaaGreatDoorZCMe6
import Derived.Test.YtigggfnchamobaaGreatDoorZCMe7
import Derived.Test.YtigggfnchamobaaGreatDoorZCMe2
import Derived.Test.YtigggfnchamobaaGreatDoorZCMe1
import Derived.OpenShut
import Derived.LaidLaws
import Derived.LaidHandle
import Derived.Lay
import Derived.MakeChecks
set_option linter.unusedVariables false
set_option linter.unusedSimpArgs false
set_option maxHeartbeats 4000000
set_option maxRecDepth 20000
section
namespace Go.Proofs.YtigggfnchamobaaGreatDoor
open Go.Sx
def rP  (a37:Int×Int×Int×Int×Int×Int×List (Int)×List (Int)×List (List (Int))):Option ((List (Int)×List (Int)×List (List (Int))×(Int×Int×Int×Int×Int))×Int):=
 some (((a37.2.2.2.2.2.2.1,a37.2.2.2.2.2.2.2.1,a37.2.2.2.2.2.2.2.2,((a37.1,a37.2.1,a37.2.2.1,a37.2.2.2.1,a37.2.2.2.2.1)))),a37.2.2.2.2.2.1)
def nG  (a59:List (Int)×List (Int)×List (List (Int))×Int×Int×Int×Int×Int×Int):Option ((List (Int)×List (Int)×List (List (Int))×(Int×Int×Int×Int×Int))×Int):=
 rP  (a59.2.2.2.1,a59.2.2.2.2.1,a59.2.2.2.2.2.1,a59.2.2.2.2.2.2.1,a59.2.2.2.2.2.2.2.1,a59.2.2.2.2.2.2.2.2,a59.1,a59.2.1,a59.2.2.1)
def kM  (a96:List (Int)×Int×Int×Int×Int×Int×List (List (Int))×List (Int)):Option ((List (Int)×List (Int)×List (List (Int))×(Int×Int×Int×Int×Int))×Int):=
 nG  (a96.2.2.2.2.2.2.2,a96.1,a96.2.2.2.2.2.2.1,a96.2.1,a96.2.2.1,a96.2.2.2.1,a96.2.2.2.2.1,a96.2.2.2.2.2.1,(0:Int))
def nH (fuel:Nat) (p0:ByteArray×(List (ByteArray×Int×Int×Int×Int×Int))×(List (ByteArray×(Value×List (Int×Int))×(Value×List (Int×(Value×List (Int×Int))))))) (p1:List (Int)×(List (List (Int×Int)))) (p2:Int) (p4:Int) (a20:Int×List (Int)×(List (List (Int×Int)))×Int×List (List (Int))) (a119:Int×List (Int)×Int×Int×Int×Int×Int×Int×List (List (Int))×List (Int)) (ag118:(Int×List (Int)×Int×Int×Int×Int×Int×Int×List (List (Int))×List (Int))->Option ((List (Int)×List (Int)×List (List (Int))×(Int×Int×Int×Int×Int))×Int)) (a124:Int):Option ((List (Int)×List (Int)×List (List (Int))×(Int×Int×Int×Int×Int))×Int):=
 if¬(a119.1≠(0:Int))then(kM  (a119.2.1,a119.2.2.2.1,a119.2.2.2.2.1,a119.2.2.2.2.2.1,a119.2.2.2.2.2.2.1,a119.2.2.2.2.2.2.2.1,a119.2.2.2.2.2.2.2.2.1,a119.2.2.2.2.2.2.2.2.2))else(Option.bind (eS fuel a20.2.1 p2 a119.1 a124) fun r127=>(if(!r127)=true then(nG  (([]:List Int),([]:List Int),([]:List (List Int)),(0:Int),(0:Int),(0:Int),(0:Int),(0:Int),(11:Int)))else(Option.bind (fN fuel ((((p0.1,p0.2.1,p0.2.2)),((((p0.1,p0.2.1,p0.2.2)),((p1.1,p1.2)),a20.2.2.2.1,a20.2.2.2.2)),a20.2.2.1)) a119.2.2.2.2.2.2.2.2.1 a124) fun r131=>(Option.bind (cT fuel ((((p0.1,p0.2.1,p0.2.2)),((((p0.1,p0.2.1,p0.2.2)),((p1.1,p1.2)),a20.2.2.2.1,a20.2.2.2.2)),a20.2.2.1)) r131) fun r134=>(Option.bind (mU fuel ((a119.2.2.2.1,a119.2.2.2.2.1,a119.2.2.2.2.2.1,a119.2.2.2.2.2.2.1,a119.2.2.2.2.2.2.2.1)) a124 (c_ .u32 r134 p4)) fun r137=>(Option.bind (qY fuel r131 (c_ .u32 r134 p4) ((r137.1.1,r137.1.2.1,r137.1.2.2.1,r137.1.2.2.2.1,r137.1.2.2.2.2))) fun r140=>(ck ((List.length a119.2.2.2.2.2.2.2.2.2:Int)+(List.length ([a124]):Int)<=1099511627) (ck ((List.length a119.2.1:Int)+(List.length ([(c_ .u32 r134 p4)]):Int)<=1099511627) (ag118 ((c_ .u32 r134 p4),(a119.2.1++([(c_ .u32 r134 p4)])),(wI .i64 (a119.2.2.1+(1:Int))),r137.1.1,r137.1.2.1,r137.1.2.2.1,r137.1.2.2.2.1,r137.1.2.2.2.2,r131,(a119.2.2.2.2.2.2.2.2.2++[a124])))))))))))
def iK (fuel:Nat) (p0:ByteArray×(List (ByteArray×Int×Int×Int×Int×Int))×(List (ByteArray×(Value×List (Int×Int))×(Value×List (Int×(Value×List (Int×Int))))))) (p1:List (Int)×(List (List (Int×Int)))) (p2:Int) (p4:Int) (p5:List (Int)) (a20:Int×List (Int)×(List (List (Int×Int)))×Int×List (List (Int))) (a119:Int×List (Int)×Int×Int×Int×Int×Int×Int×List (List (Int))×List (Int)) (ag118:(Int×List (Int)×Int×Int×Int×Int×Int×Int×List (List (Int))×List (Int))->Option ((List (Int)×List (Int)×List (List (Int))×(Int×Int×Int×Int×Int))×Int)):Option ((List (Int)×List (Int)×List (List (Int))×(Int×Int×Int×Int×Int))×Int):=
 if a119.2.2.1<(List.length p5:Int)then(ck (0<=a119.2.2.1∧a119.2.2.1<(List.length p5:Int)) (Option.bind (eT fuel a20.2.1 p2 a119.1 (at' p5 a119.2.2.1)) fun r152=>(nH fuel p0 p1 p2 p4 a20 a119 ag118 (r152))))else(kM  (a119.2.1,a119.2.2.2.1,a119.2.2.2.2.1,a119.2.2.2.2.2.1,a119.2.2.2.2.2.2.1,a119.2.2.2.2.2.2.2.1,a119.2.2.2.2.2.2.2.2.1,a119.2.2.2.2.2.2.2.2.2))
def nF (fuel:Nat) (p0:ByteArray×(List (ByteArray×Int×Int×Int×Int×Int))×(List (ByteArray×(Value×List (Int×Int))×(Value×List (Int×(Value×List (Int×Int))))))) (p1:List (Int)×(List (List (Int×Int)))) (p2:Int) (p3:List (List (Int))) (p4:Int) (p5:List (Int)) (a20:Int×List (Int)×(List (List (Int×Int)))×Int×List (List (Int))):Option ((List (Int)×List (Int)×List (List (Int))×(Int×Int×Int×Int×Int))×Int):=
 Option.bind (pQ fuel p3) fun r67=>(Option.bind (cT fuel ((((p0.1,p0.2.1,p0.2.2)),((((p0.1,p0.2.1,p0.2.2)),((p1.1,p1.2)),a20.2.2.2.1,a20.2.2.2.2)),a20.2.2.1)) r67) fun r70=>(Option.bind (sJ fuel (c_ .u32 r70 p4)) fun r73=>(Option.bind (qY fuel r67 (c_ .u32 r70 p4) ((r73.1,r73.2.1,r73.2.2.1,r73.2.2.2.1,r73.2.2.2.2))) fun r77=>(ck ((List.length ([]:List Int):Int)+(List.length ([(c_ .u32 r70 p4)]):Int)<=1099511627) (bG (iK fuel p0 p1 p2 p4 p5 a20) fuel ((c_ .u32 r70 p4),(([]:List Int)++([(c_ .u32 r70 p4)])),(0:Int),r73.1,r73.2.1,r73.2.2.1,r73.2.2.2.1,r73.2.2.2.2,r67,([]:List Int)))))))
def nJ (fuel:Nat) (p0:ByteArray×(List (ByteArray×Int×Int×Int×Int×Int))×(List (ByteArray×(Value×List (Int×Int))×(Value×List (Int×(Value×List (Int×Int))))))) (p1:List (Int)×(List (List (Int×Int)))) (p2:Int) (p3:List (List (Int))) (p4:Int) (p5:List (Int)) (a167:(List (List (Int×Int)))×Int×List (List (Int))):Option ((List (Int)×List (Int)×List (List (Int))×(Int×Int×Int×Int×Int))×Int):=
 Option.bind (mD fuel ((p1.1,p1.2))) fun r169=>(Option.bind (qL fuel ((p1.1,p1.2))) fun r172=>(nF fuel p0 p1 p2 p3 p4 p5 (r172,r169,a167.1,a167.2.1,a167.2.2)))
def nK (fuel:Nat) (p0:ByteArray×(List (ByteArray×Int×Int×Int×Int×Int))×(List (ByteArray×(Value×List (Int×Int))×(Value×List (Int×(Value×List (Int×Int))))))) (p1:List (Int)×(List (List (Int×Int)))) (p2:Int) (p3:List (List (Int))) (p4:Int) (p5:List (Int)) (a184:Int×List (List (Int))):Option ((List (Int)×List (Int)×List (List (Int))×(Int×Int×Int×Int×Int))×Int):=
 Option.bind (jT fuel ((p0.1,p0.2.1,p0.2.2)) ((p1.1,p1.2))) fun r186=>(nJ fuel p0 p1 p2 p3 p4 p5 (r186,a184.1,a184.2))
def kN (fuel:Nat) (p0:ByteArray×(List (ByteArray×Int×Int×Int×Int×Int))×(List (ByteArray×(Value×List (Int×Int))×(Value×List (Int×(Value×List (Int×Int))))))) (p1:List (Int)×(List (List (Int×Int)))) (p2:Int) (p3:List (List (Int))) (p4:Int) (p5:List (Int)) (a200:Int×List (List (Int))):Option ((List (Int)×List (Int)×List (List (Int))×(Int×Int×Int×Int×Int))×Int):=
 nK fuel p0 p1 p2 p3 p4 p5 (a200.1,a200.2)
def nL (p1:List (Int)×(List (List (Int×Int)))) (a207:Int×Int×List (List (Int))) (ag206:(Int×Int×List (List (Int)))->Option ((List (Int)×List (Int)×List (List (Int))×(Int×Int×Int×Int×Int))×Int)) (a213:List (List (Int))):Option ((List (Int)×List (Int)×List (List (Int))×(Int×Int×Int×Int×Int))×Int):=
 ag206 ((wI .i64 (a207.1+(1:Int))),(max a207.2.1 (at' p1.1 a207.1)),a213)
def gA (fuel:Nat) (p1:List (Int)×(List (List (Int×Int)))) (a207:Int×Int×List (List (Int))) (ag206:(Int×Int×List (List (Int)))->Option ((List (Int)×List (Int)×List (List (Int))×(Int×Int×Int×Int×Int))×Int)) (a221:Int×List (List (Int))) (ag220:(Int×List (List (Int)))->Option ((List (Int)×List (Int)×List (List (Int))×(Int×Int×Int×Int×Int))×Int)):Option ((List (Int)×List (Int)×List (List (Int))×(Int×Int×Int×Int×Int))×Int):=
 if a221.1<(List.length (at' p1.2 a207.1):Int)then(ck (0<=a221.1∧a221.1<(List.length (at' p1.2 a207.1):Int)) (ck (0<=a207.1∧a207.1<(List.length a221.2:Int)) (Option.bind (n_ fuel ((p1.1,p1.2)) ((at' (at' p1.2 a207.1) a221.1).1) a207.1) fun r230=>(ck ((List.length (at' a221.2 a207.1):Int)+(List.length ([r230]):Int)<=1099511627) (ck (0<=a207.1∧a207.1<(List.length (List.set a221.2 (Int.toNat a207.1) ((at' a221.2 a207.1)++[r230])):Int)) (ag220 ((wI .i64 (a221.1+(1:Int))),(List.set a221.2 (Int.toNat a207.1) ((at' a221.2 a207.1)++[r230])))))))))else(nL p1 a207 ag206 (a221.2))
def eF (fuel:Nat) (p0:ByteArray×(List (ByteArray×Int×Int×Int×Int×Int))×(List (ByteArray×(Value×List (Int×Int))×(Value×List (Int×(Value×List (Int×Int))))))) (p1:List (Int)×(List (List (Int×Int)))) (p2:Int) (p3:List (List (Int))) (p4:Int) (p5:List (Int)) (a207:Int×Int×List (List (Int))) (ag206:(Int×Int×List (List (Int)))->Option ((List (Int)×List (Int)×List (List (Int))×(Int×Int×Int×Int×Int))×Int)):Option ((List (Int)×List (Int)×List (List (Int))×(Int×Int×Int×Int×Int))×Int):=
 if a207.1<(List.length p1.2:Int)then(ck (0<=a207.1∧a207.1<(List.length p1.2:Int)) (ck (0<=a207.1∧a207.1<(List.length p1.1:Int)) (bG (gA fuel p1 a207 ag206) fuel ((0:Int),a207.2.2))))else(kN fuel p0 p1 p2 p3 p4 p5 (a207.2.1,a207.2.2))
def jC (fuel:Nat) (p0:ByteArray×(List (ByteArray×Int×Int×Int×Int×Int))×(List (ByteArray×(Value×List (Int×Int))×(Value×List (Int×(Value×List (Int×Int))))))) (p1:List (Int)×(List (List (Int×Int)))) (p2:Int) (p3:List (List (Int))) (p4:Int) (p5:List (Int)):Option ((List (Int)×List (Int)×List (List (Int))×(Int×Int×Int×Int×Int))×Int):=
 Option.bind (tG fuel ((p0.1,p0.2.1,p0.2.2)) ((p1.1,p1.2)) p2 p3 (List.length p5:Int)) fun r4=>(if r4≠(0:Int)then(some (((([]:List Int),([]:List Int),([]:List (List Int)),(((0:Int),(0:Int),(0:Int),(0:Int),(0:Int))))),r4))else(ck (0<=(List.length p1.2:Int)∧(List.length p1.2:Int)<=1099511627) (bG (eF fuel p0 p1 p2 p3 p4 p5) fuel ((0:Int),(0:Int),(List.replicate (Int.toNat (List.length p1.2:Int)) ([]:List Int))))))
theorem VS:aR Tryz.prog 36:=Tryz.call36
theorem Ct (fuel:Nat) {p0:ByteArray×(List (ByteArray×Int×Int×Int×Int×Int))×(List (ByteArray×(Value×List (Int×Int))×(Value×List (Int×(Value×List (Int×Int))))))} {p1:List (Int)×(List (List (Int×Int)))} {p2:Int} {p3:List (List (Int))} {p4:Int} {p5:List (Int)} (v0:Value)  (v1:Value)  (v2:Value)  (v3:Value)  (z4:List (Value×List (Int×Int)))  (v5:Value)  (z6:List (Value×List (Int)))  (v7:Value) (r:(List (Int)×List (Int)×List (List (Int))×(Int×Int×Int×Int×Int))×Int) (h:jC fuel p0 p1 p2 p3 p4 p5=some r):
  aV Tryz.prog 36 #[Value.agg #[Value.string (p0.1),v0,v1],Value.agg #[v2,v3],vI (p2),v5,vU (p4),v7] [Sl aP v0 p0.2.1,Sl aI v1 p0.2.2,PF (Value.agg #[Value.string p0.1,v0,v1]),Sl bM v2 p1.1,S2 aZ v3 z4 p1.2,S2 bM v5 z6 p3,Sl wR v7 p5,Gb 0 (cellsOf Fb vT)] (fun x:Value×Value×Value×List Value=>Value.tuple #[Value.agg #[x.1,x.2.1,x.2.2.1,vI (r.1.2.2.2.1),vI (r.1.2.2.2.2.1),vI (r.1.2.2.2.2.2.1),vI (r.1.2.2.2.2.2.2.1),vU (r.1.2.2.2.2.2.2.2)],vI (r.2)]) (fun x l=>Ar jV x.1 r.1.1::Ar jV x.2.1 r.1.2.1::Ar dJ.raw x.2.2.1 x.2.2.2::jG bY x.2.2.2 r.1.2.2.1::l) (fun _ l=>l):=by
 refine aV.of Tryz.func36 rfl Tryz.ntmps36 rfl fun c=>?_
 unfold jC at h
 refine sqR<|aG (aM.box (cs:=[Value.string (p0.1),v0,v1]) rfl rfl) rfl fun b1=>aG (aM.box (cs:=[v2,v3]) rfl rfl) rfl fun b2=>aG (aM.alloc (cs:=[Value.slice none 0 0,Value.slice none 0 0,Value.slice none 0 0,vI (0:Int),vI (0:Int),vI (0:Int),vI (0:Int),vU (0:Int)]) rfl rfl) rfl fun b3=>qkAsg rfl<|dtN<|aL<|sqR<|qkLdA 2 rfl<|qkLdA 1 rfl<|qkMove rfl<|qkMove rfl<|qkMove rfl<|aB (b_ rfl (aC.fact 6 rfl) rfl) rfl ?_
 have⟨r4,w5,h⟩:=fE h
 refine aG (aM.callQ VW (KM fuel v0 v1 v2 v3 z4 v5 z6 r4 w5) rfl (aA.cons (aC.fact 0 rfl) (aA.cons (aC.fact 1 rfl) (aA.cons (aC.fact 2 rfl) (aA.cons (aC.fact 3 rfl) (aA.cons (aC.fact 4 rfl) (aA.cons (aC.fact 5 rfl) .nil))))))) rfl fun x6=>qkAsg rfl<|dtN<|sqR<|qkMove rfl<|aB (kR rfl rfl) rfl<|dtN ?_
 refine eL h rfl (fun h=>?_) fun h=>?_
 ·refine sqR ?_
  refine aB (Fp (r:=Value.agg #[Value.slice none 0 0,Value.slice none 0 0,Value.slice none 0 0,Value.int .i64 (0:Int),Value.int .i64 (0:Int),Value.int .i64 (0:Int),Value.int .i64 (0:Int),Value.int .u32 (0:Int)]) (by intro w;simp[Instr.build,Instr.fill,eN,dU,cY,eO,eP,dV,fS])) rfl ?_
  refine qkMove rfl<|bI 0 (vs:=[Value.slice none 0 0,Value.slice none 0 0,Value.slice none 0 0,vI (0:Int),vI (0:Int),vI (0:Int),vI (0:Int),vU (0:Int)]) rfl rfl rfl rfl rfl rfl<|qkAsg rfl<|dtN<|aS<|aJ<|jJ (iW jV)<|jJ (iW jV)<|jJ (iW dJ.raw) (jJ (xT bY) ?_)
  cases h
  exact jF ((Value.slice none 0 0),(Value.slice none 0 0),(Value.slice none 0 0),([]:List Value)) rfl rfl (RV.cell 4 rfl rfl rfl rfl) (RV.tmp rfl) (aK.ix [2,3,1,0] rfl rfl) aA.nil
 refine iV<|sqR<|qkLdA 2 rfl<|qkLdA 1 rfl<|qkMove rfl<|yA (A:=Int×List (Int)×(List (List (Int×Int)))×Int×List (List (Int))) (B:=Nat×Value×Nat×Value×List Value×Value×List Value) (vs:=[Value.agg #[Value.string (p0.1),v0,v1],Value.agg #[v2,v3],vI (p2),Value.func (.func 53) #[] #[]]) (fun a20=>nF fuel p0 p1 p2 p3 p4 p5 a20=some r) (fun a20 b21=>Value.agg #[vP b21.1,b21.2.1,vI (p2),vU (a20.1),Value.func (.func 53) #[] #[]]) (fun a20 b21=>[Ar jV b21.2.1 a20.2.1,bO b21.1 [Value.string (p0.1),v0,v1,vP b21.2.2.1,b21.2.2.2.1] 140,Ar dJ.raw b21.2.2.2.1 b21.2.2.2.2.1,jG bR b21.2.2.2.2.1 a20.2.2.1,bO b21.2.2.1 [Value.string (p0.1),v0,v1,v2,v3,vI (a20.2.2.2.1),b21.2.2.2.2.2.1] 178,Ar dJ.raw b21.2.2.2.2.2.1 b21.2.2.2.2.2.2,jG bY b21.2.2.2.2.2.2 a20.2.2.2.2,bO b3 [Value.slice none 0 0,Value.slice none 0 0,Value.slice none 0 0,vI (0:Int),vI (0:Int),vI (0:Int),vI (0:Int),vU (0:Int)] 44]) (fun a20 b21=>[Sl aP v0 p0.2.1,Sl aI v1 p0.2.2,PF (Value.agg #[Value.string p0.1,v0,v1]),Sl bM v2 p1.1,S2 aZ v3 z4 p1.2,S2 bM v5 z6 p3,Sl wR v7 p5,Gb 0 (cellsOf Fb vT)]) (tO.fn (show aR Tryz.prog 52 from Tryz.call52) rfl) Tryz.func52 rfl Tryz.ntmps52 rfl rfl ?_ ?_
 ·refine sqR<|aG (aM.box (cs:=[Value.string (p0.1),v0,v1]) rfl rfl) rfl fun b155=>aG (aM.box (cs:=[v2,v3]) rfl rfl) rfl fun b156=>aG (aM.alloc (cs:=[Value.pointer none,Value.slice none 0 0,vI (0:Int),vU (0:Int),Value.nilFunc]) rfl rfl) rfl fun b157=>dtN<|aL ?_
  refine JR.start [0,0,3,0,15,0,0,95,0,511,1023] 9 mixedOrders (by decide +kernel) ?_
  refine JR.open (by exact rfl) ?_
  refine jkLdA 2 rfl<|jkLdA 1 rfl<|MH (A:=(List (List (Int×Int)))×Int×List (List (Int))) (B:=Nat×Nat×Value×List Value×Value×List Value) (vs:=[Value.agg #[Value.string (p0.1),v0,v1],Value.agg #[v2,v3]]) (fun a167=>nJ fuel p0 p1 p2 p3 p4 p5 a167=some r) (fun a167 b168=>vP b168.1) (fun a167 b168=>[bO b168.1 [Value.string (p0.1),v0,v1,vP b168.2.1,b168.2.2.1] 140,Ar dJ.raw b168.2.2.1 b168.2.2.2.1,jG bR b168.2.2.2.1 a167.1,bO b168.2.1 [Value.string (p0.1),v0,v1,v2,v3,vI (a167.2.1),b168.2.2.2.2.1] 178,Ar dJ.raw b168.2.2.2.2.1 b168.2.2.2.2.2,jG bY b168.2.2.2.2.2 a167.2.2,bO b157 [Value.pointer none,Value.slice none 0 0,vI (0:Int),vU (0:Int),Value.nilFunc] 97,bO b156 [v2,v3] 28,bO b155 [Value.string (p0.1),v0,v1] 33,bO b3 [Value.slice none 0 0,Value.slice none 0 0,Value.slice none 0 0,vI (0:Int),vI (0:Int),vI (0:Int),vI (0:Int),vU (0:Int)] 44]) (fun a167 b168=>[Sl aP v0 p0.2.1,Sl aI v1 p0.2.2,PF (Value.agg #[Value.string p0.1,v0,v1]),Sl bM v2 p1.1,S2 aZ v3 z4 p1.2,S2 bM v5 z6 p3,Sl wR v7 p5,Gb 0 (cellsOf Fb vT)]) rfl rfl rfl (tO.fn (show aR Tryz.prog 56 from Tryz.call56) rfl) Tryz.func56 rfl Tryz.ntmps56 rfl rfl (fun _ _=>(aF.b rfl (aF.b rfl aF.z))) ?_ ?_
  ·refine sqR<|aG (aM.box (cs:=[Value.string (p0.1),v0,v1]) rfl rfl) rfl fun b177=>aG (aM.box (cs:=[v2,v3]) rfl rfl) rfl fun b178=>qkAsg rfl<|dtN<|aL ?_
   refine JR.start [0,0,0,6,0,0,62,127,255,511] 7 mixedOrders (by decide +kernel) ?_
   refine JR.open (by exact rfl) ?_
   refine jkLdA 1 rfl<|jkLdA 1 rfl<|jkLdA 0 rfl<|MH (A:=Int×List (List (Int))) (B:=Nat×Value×List Value) (vs:=[Value.agg #[Value.string (p0.1),v0,v1],Value.agg #[v2,v3]]) (fun a184=>nK fuel p0 p1 p2 p3 p4 p5 a184=some r) (fun a184 b185=>vP b185.1) (fun a184 b185=>[bO b185.1 [Value.string (p0.1),v0,v1,v2,v3,vI (a184.1),b185.2.1] 178,Ar dJ.raw b185.2.1 b185.2.2,jG bY b185.2.2 a184.2,bO b178 [v2,v3] 28,bO b177 [Value.string (p0.1),v0,v1] 33,bO b157 [Value.pointer none,Value.slice none 0 0,vI (0:Int),vU (0:Int),Value.nilFunc] 97,bO b156 [v2,v3] 28,bO b155 [Value.string (p0.1),v0,v1] 33,bO b3 [Value.slice none 0 0,Value.slice none 0 0,Value.slice none 0 0,vI (0:Int),vI (0:Int),vI (0:Int),vI (0:Int),vU (0:Int)] 44]) (fun a184 b185=>[Sl aP v0 p0.2.1,Sl aI v1 p0.2.2,PF (Value.agg #[Value.string p0.1,v0,v1]),Sl bM v2 p1.1,S2 aZ v3 z4 p1.2,S2 bM v5 z6 p3,Sl wR v7 p5,Gb 0 (cellsOf Fb vT)]) rfl rfl rfl (tO.fn (show aR Tryz.prog 84 from Tryz.call84) rfl) Tryz.func84 rfl Tryz.ntmps84 rfl rfl (fun _ _=>(aF.b rfl (aF.b rfl (aF.h (aK.ix [4] rfl rfl) .nil aF.z)))) ?_ ?_
   ·refine sqR<|aG (aM.box (cs:=[Value.string (p0.1),v0,v1]) rfl rfl) rfl fun b191=>aG (aM.box (cs:=[v2,v3]) rfl rfl) rfl fun b192=>qkAsg rfl<|dtN<|aL ?_
    refine JR.start [0,0,0,4,12,28,63,127,255] 6 mixedOrders (by decide +kernel) ?_
    refine JR.open (by exact rfl) ?_
    refine jkLdA 1 rfl<|jkLdA 0 rfl<|jkFld rfl<|jkLd 0 rfl<|aN rfl .nil (cV.cons (List.mem_of_getElem? (i:=4) rfl) .nil) (iX rfl (aC.fact 0 rfl) rfl) aD.z ?_
    have⟨j193,h⟩:=aH h
    refine JR.stp (vO bY (Int.toNat (List.length p1.2:Int)))<|JR.loud rfl rfl rfl (oH (e:=dJ.raw) (Value.slice none 0 0) rfl rfl rfl rfl j193 rfl rfl rfl) rfl (fun u194=>(aF.b rfl (aF.b rfl (aF.b rfl (aF.h (aK.ix [2] rfl rfl) .nil (aF.h (aK.ix [3] rfl rfl) .nil aF.z)))))) fun u194=>bL 6 rfl rfl<|bZ (Know.one (aC.sl (bD (i:=0) (j:=1) rfl rfl cI))) fun ho195=>?_
    refine aB (PU (r:=Value.agg #[Value.string (p0.1),v0,v1,v2,v3,Value.int .i64 (0:Int),u194]) rfl rfl rfl (by intro w;simp[Instr.build,Instr.fill,eN,dU,cY,eO,eP,dV,fS,jD ho195])) rfl ?_
    refine aG (aM.box (cs:=[Value.string (p0.1),v0,v1,v2,v3,vI (0:Int),u194]) rfl rfl) rfl fun b196=>qkAsg rfl<|dtN<|aL<|midL (B:=List Value) (fun a200=>kN fuel p0 p1 p2 p3 p4 p5 a200=some r) (fun a200 b201=>[(5,vP b196)]) (fun a200 b201=>[bO b196 [Value.string (p0.1),v0,v1,v2,v3,vI (a200.1),u194] 178,Ar dJ.raw u194 b201,jG bY b201 a200.2,bO b178 [v2,v3] 28,bO b177 [Value.string (p0.1),v0,v1] 33,bO b157 [Value.pointer none,Value.slice none 0 0,vI (0:Int),vU (0:Int),Value.nilFunc] 97,bO b156 [v2,v3] 28,bO b155 [Value.string (p0.1),v0,v1] 33,bO b3 [Value.slice none 0 0,Value.slice none 0 0,Value.slice none 0 0,vI (0:Int),vI (0:Int),vI (0:Int),vI (0:Int),vU (0:Int)] 44]) ?_ ?_
    ·refine sqR<|qkFld rfl<|qkLd 3 rfl<|aB (iX rfl (aC.fact 4 rfl) rfl) rfl<|qkMove rfl<|dtN<|aQ<|loopL (B:=List Value) (eF fuel p0 p1 p2 p3 p4 p5) (fun a207 b208=>[(3,vP b192),(5,vP b196),(19,v3),(20,vI (List.length p1.2:Int)),(21,vI (a207.1))]) (fun a207 b208=>[bO b196 [Value.string (p0.1),v0,v1,v2,v3,vI (a207.2.1),u194] 178,Ar dJ.raw u194 b208,jG bY b208 a207.2.2,bO b192 [v2,v3] 28,bO b178 [v2,v3] 28,bO b177 [Value.string (p0.1),v0,v1] 33,bO b157 [Value.pointer none,Value.slice none 0 0,vI (0:Int),vU (0:Int),Value.nilFunc] 97,bO b156 [v2,v3] 28,bO b155 [Value.string (p0.1),v0,v1] 33,bO b3 [Value.slice none 0 0,Value.slice none 0 0,Value.slice none 0 0,vI (0:Int),vI (0:Int),vI (0:Int),vI (0:Int),vU (0:Int)] 44]) ((0:Int),(0:Int),(List.replicate (Int.toNat (List.length p1.2:Int)) ([]:List Int))) (List.replicate (Int.toNat (List.length p1.2:Int)) (Value.slice none 0 0)) h SF (aK.ix [0,1,2,3,5,6,7,8,9,10] rfl rfl) ?_
     clear h
     intro k209 a207 b208 h
     unfold eF at h
     refine sqR<|qkLss rfl<|dtN<|aL ?_
     refine eL h rfl (fun h=>?_) fun h=>?_
     ·refine iV<|aL<|midL (B:=List Value) (fun a213=>nL p1 a207 (bG (eF fuel p0 p1 p2 p3 p4 p5) k209) a213=some r) (fun a213 b214=>[(3,vP b192),(5,vP b196),(19,v3),(20,vI (List.length p1.2:Int)),(21,vI (a207.1))]) (fun a213 b214=>[bO b196 [Value.string (p0.1),v0,v1,v2,v3,vI (max a207.2.1 (at' p1.1 a207.1)),u194] 178,Ar dJ.raw u194 b214,jG bY b214 a213,bO b192 [v2,v3] 28,bO b178 [v2,v3] 28,bO b177 [Value.string (p0.1),v0,v1] 33,bO b157 [Value.pointer none,Value.slice none 0 0,vI (0:Int),vU (0:Int),Value.nilFunc] 97,bO b156 [v2,v3] 28,bO b155 [Value.string (p0.1),v0,v1] 33,bO b3 [Value.slice none 0 0,Value.slice none 0 0,Value.slice none 0 0,vI (0:Int),vI (0:Int),vI (0:Int),vI (0:Int),vU (0:Int)] 44]) ?_ ?_
      ·refine aQ<|sqR<|qkMove rfl ?_
       have⟨j215,h⟩:=aH h
       refine aB (cO rfl rfl (aC.fact 4 rfl) rfl rfl j215) rfl<|aB (cM rfl (aC.fact 4 rfl) rfl rfl j215) rfl<|qkAsg rfl<|qkAsg rfl<|dtN<|aL ?_
       refine JR.start [0,0,2,6,14,0,32,0,224,480,1022,2047,4095,8191] 11 mixedOrders (by decide +kernel) ?_
       refine JR.open (by exact rfl) ?_
       refine jkMove rfl<|jkMove rfl<|aN rfl .nil .nil (bQ rfl) aD.z<|jkFld rfl<|jkLd 0 rfl<|jkFld rfl<|jkLd 3 rfl<|jkMove rfl ?_
       have⟨j216,h⟩:=aH h
       refine aN rfl .nil (cV.cons (List.mem_of_getElem? (i:=3) rfl) .nil) (a_ rfl rfl (aC.fact 0 rfl) rfl rfl j216) aD.z<|aN rfl .nil (cV.cons (List.mem_of_getElem? (i:=3) rfl) .nil) (bS rfl (aC.fact 0 rfl) rfl rfl rfl dB j216) aD.z<|aN rfl .nil .nil (JN rfl rfl) aD.z<|bL 11 rfl rfl<|aB (bQ rfl) rfl<|qkFld rfl<|eJ 0 rfl rfl rfl rfl rfl rfl<|dtN<|sqR<|qkMove rfl<|aB (b_ rfl (aC.el (aC.fact 4 rfl) j215.1 j215.2) rfl) rfl<|qkMove rfl<|dtN<|aQ<|loopL (B:=List Value) (gA fuel p1 a207 (bG (eF fuel p0 p1 p2 p3 p4 p5) k209)) (fun a221 b222=>[(3,vP b192),(5,vP b196),(6,vI (a207.1)),(19,v3),(20,vI (List.length p1.2:Int)),(21,vI (a207.1)),(39,(at' z4 a207.1).1),(40,vI (List.length (at' p1.2 a207.1):Int)),(41,vI (a221.1))]) (fun a221 b222=>[bO b196 [Value.string (p0.1),v0,v1,v2,v3,vI (max a207.2.1 (at' p1.1 a207.1)),u194] 178,Ar dJ.raw u194 b222,jG bY b222 a221.2,bO b192 [v2,v3] 28,bO b178 [v2,v3] 28,bO b177 [Value.string (p0.1),v0,v1] 33,bO b157 [Value.pointer none,Value.slice none 0 0,vI (0:Int),vU (0:Int),Value.nilFunc] 97,bO b156 [v2,v3] 28,bO b155 [Value.string (p0.1),v0,v1] 33,bO b3 [Value.slice none 0 0,Value.slice none 0 0,Value.slice none 0 0,vI (0:Int),vI (0:Int),vI (0:Int),vI (0:Int),vU (0:Int)] 44]) ((0:Int),a207.2.2) (b208) h SF (aK.refl _) ?_
       clear h
       intro k223 a221 b222 h
       unfold gA at h
       refine sqR<|qkLss rfl<|dtN<|aL ?_
       refine eL h rfl (fun h=>?_) fun h=>?_
       ·refine iV<|aL<|aQ<|sqR ?_
        have⟨j225,h⟩:=aH h
        refine aB (a_ rfl rfl (aC.el (aC.fact 4 rfl) j215.1 j215.2) rfl rfl j225) rfl<|aB (fZ (cs:=[vI ((at' (at' p1.2 a207.1) a221.1).1),vI ((at' (at' p1.2 a207.1) a221.1).2)]) rfl (aC.el (aC.fact 4 rfl) j215.1 j215.2) bJ rfl rfl rfl rfl j225) rfl<|aG (aM.alloc (cs:=[vI (0:Int),vI (0:Int)]) rfl rfl) rfl fun b226=>bI 0 (vs:=[vI ((at' (at' p1.2 a207.1) a221.1).1),vI ((at' (at' p1.2 a207.1) a221.1).2)]) rfl rfl rfl rfl rfl rfl<|dtN ?_
        refine JR.start [0,1,3,7,0,0,32,96,224,0,992,2016,0,0,8192,0,61440,126976,262112,524287,1048575] 19 mixedOrders (by decide +kernel) ?_
        refine JR.open (by exact rfl) ?_
        refine jkMove rfl<|aN rfl .nil .nil (bQ rfl) aD.z<|jkFld rfl<|jkLd 1 rfl<|jkMove rfl<|jkMove rfl<|aN rfl .nil .nil (bQ rfl) aD.z<|jkFld rfl<|jkLd 1 rfl<|jkMove rfl ?_
        have⟨j227,h⟩:=aH h
        refine bP (bX 3 rfl) fun hl228=>?_
        refine aN rfl (aK.cons 2 rfl .nil) .nil (fD 0 rfl rfl rfl rfl rfl j227.1 (by have q1:=j227.2;have q2:=hl228;(try simp only[List.length_set]at q1);(try simp only[List.length_set]at q2);(try simp only[List.length_set]);omega)) aD.z ?_
        refine bP (bX 3 rfl) fun hl229=>aN rfl (aK.cons 2 rfl .nil) .nil (gR 0 rfl rfl hl229 rfl rfl j227) aD.z<|jkLdA 4 rfl<|jkFld rfl<|jkLd 0 rfl<|jkMove rfl ?_
        have⟨r230,w231,h⟩:=fE h
        refine JR.loud rfl rfl rfl (aM.callQ Tt (GA fuel v2 v3 z4 r230 w231) rfl (aA.cons (aC.fact 3 rfl) (aA.cons (aC.fact 4 rfl) .nil))) rfl (fun x232=>(aF.b rfl (aF.b rfl (aF.b rfl (aF.b rfl (aF.h (aK.ix [2] rfl rfl) .nil (aF.h (aK.ix [2] rfl rfl) .nil (aF.h .nil .nil (aF.h (aK.ix [1] rfl rfl) .nil (aF.h .nil .nil (aF.h .nil .nil (aF.h .nil .nil (aF.h .nil .nil (aF.h (aK.ix [1] rfl rfl) .nil (aF.h .nil .nil (aF.h .nil .nil (aF.h .nil .nil aF.z))))))))))))))))) fun x232=>JR.loud rfl rfl rfl (cE (e:=bY) ([r230]) [(0,vI (r230))] rfl rfl rfl rfl (mM (vI (r230)) rfl) rfl rfl rfl) rfl (fun u233=>(aF.b rfl (aF.b rfl (aF.b rfl (aF.b rfl (aF.h (aK.ix [3] rfl rfl) .nil (aF.h (aK.ix [3] rfl rfl) .nil (aF.h .nil .nil (aF.h (aK.ix [2] rfl rfl) .nil (aF.h .nil .nil (aF.h .nil .nil (aF.h .nil .nil (aF.h .nil .nil (aF.h (aK.ix [2] rfl rfl) .nil (aF.h .nil .nil (aF.h .nil .nil (aF.h .nil .nil aF.z))))))))))))))))) fun u233=>?_
        have⟨j235,h⟩:=aH h
        refine JR.loud rfl rfl rfl (oW 4 cI rfl rfl rfl (aU (aC.res 0 rfl) cI) rfl rfl rfl rfl j227 j235 rfl) rfl (fun u234=>(aF.b rfl (aF.b rfl (aF.b rfl (aF.b rfl (aF.b rfl (aF.b rfl (aF.b rfl (aF.b rfl (aF.b rfl (aF.b rfl (aF.b rfl (aF.h .nil .nil (aF.h (aK.ix [2] rfl rfl) .nil (aF.h .nil .nil (aF.h .nil .nil (aF.h .nil .nil aF.z))))))))))))))))) fun u234=>bL 19 rfl rfl ?_
        have⟨j236,h⟩:=aH h
        refine bZ (bX 4 rfl) fun hl237=>?_
        refine aB (fD 3 rfl rfl rfl rfl rfl j236.1 (by have q1:=j236.2;have q2:=hl237;(try simp only[List.length_set]at q1);(try simp only[List.length_set]at q2);(try simp only[List.length_set]);omega)) rfl ?_
        refine bZ (xS 4 (k:=a207.1) rfl ⟨j236.1,by first|exact j236.2|simpa using j236.2⟩) fun ho238=>?_
        refine oG 3 4 ⟨j236.1,by first|exact j236.2|simpa using j236.2⟩ rfl rfl rfl rfl rfl (by simp) ho238 rfl ?_
        refine dY<|inT<|aO<|qkAdd rfl<|qkMove rfl<|dtN ?_
        exact nN ((wI .i64 (a221.1+(1:Int))),(List.set a221.2 (Int.toNat a207.1) ((at' a221.2 a207.1)++[r230]))) (List.set b222 (Int.toNat a207.1) u234) h SF (aK.ix [2,3,4,5,6,7,8,9,10,11] rfl rfl) (aA.refl _ _)
       refine nO<|cX<|cX<|tA<|inT ?_
       exact iJ (a221.2) (b222) h SF rfl
      clear h
      intro a213 b214 h
      unfold nL at h
      refine aO<|qkAdd rfl<|qkMove rfl<|dtN ?_
      exact xK ((wI .i64 (a207.1+(1:Int))),(max a207.2.1 (at' p1.1 a207.1)),a213) (b214) h SF rfl
     refine xO ?_
     exact cF (a207.2.1,a207.2.2) (b208) h SF (aK.ix [0,1,2,4,5,6,7,8,9] rfl rfl) (aA.refl _ _)
    clear h
    intro a200 b201 h
    unfold kN at h
    refine sqR<|qkMove rfl<|qkAsg rfl<|dtN<|aS ?_
    exact uR (a200.1,a200.2) (b196,u194,b201) h (.inl rfl) (CI.r1 rfl (RV.tmp rfl)) rfl (aK.refl _) (aA.refl _ _)
   clear h
   intro a184 b185 h
   unfold nK at h
   refine aN rfl (aK.cons 4 rfl .nil) .nil (lB 0 rfl rfl rfl rfl) (aD.h (aK.ix [1] rfl rfl) .nil aD.z)<|aN rfl (aK.cons 3 rfl .nil) .nil (lB 0 rfl rfl rfl rfl) (aD.h (aK.ix [0] rfl rfl) .nil aD.z) ?_
   have⟨r186,w187,h⟩:=fE h
   refine JR.loud rfl rfl rfl (aM.callQ Qn (AZ fuel v0 v1 v2 v3 z4 r186 w187) rfl (aA.cons (aC.fact 0 rfl) (aA.cons (aC.fact 1 rfl) (aA.cons (aC.fact 2 rfl) (aA.cons (aC.fact 3 rfl) (aA.cons (aC.fact 4 rfl) .nil)))))) rfl (fun x188=>(aF.b rfl (aF.b rfl (aF.b rfl (aF.b rfl (aF.h (aK.ix [6] rfl rfl) .nil aF.z)))))) fun x188=>bL 7 rfl rfl<|bZ (Know.one (aC.sl (bD (i:=0) (j:=1) rfl rfl bJ))) fun ho189=>?_
   refine aB (PU (r:=Value.agg #[Value.string (p0.1),v0,v1,Value.pointer (some ⟨b185.1,0,none⟩),x188.1]) rfl rfl rfl (by intro w;simp[Instr.build,Instr.fill,eN,dU,cY,eO,eP,dV,fS,jD ho189])) rfl ?_
   refine aG (aM.box (cs:=[Value.string (p0.1),v0,v1,vP b185.1,x188.1]) rfl rfl) rfl fun b190=>qkAsg rfl<|dtN<|aS ?_
   exact uR (r186,a184.1,a184.2) (b190,b185.1,x188.1,x188.2,b185.2.1,b185.2.2) h (.inl rfl) (CI.r1 rfl (RV.tmp rfl)) rfl (aK.ix [0,1,2,3,4,5,8,9,10,11] rfl rfl) (aA.refl _ _)
  clear h
  intro a167 b168 h
  unfold nJ at h
  refine aN rfl (aK.cons 7 rfl .nil) .nil (lB 0 rfl rfl rfl rfl) (aD.h (aK.ix [1] rfl rfl) .nil aD.z) ?_
  have⟨r169,w170,h⟩:=fE h
  refine JR.loud rfl rfl rfl (aM.callQ Wc (EA fuel v2 v3 z4 r169 w170) rfl (aA.cons (aC.fact 3 rfl) (aA.cons (aC.fact 4 rfl) .nil))) rfl (fun x171=>(aF.b rfl (aF.b rfl (aF.b rfl aF.z)))) fun x171=>aN rfl .nil .nil (dQ rfl) (aD.h .nil .nil (aD.h .nil .nil aD.z))<|aN rfl (aK.cons 8 rfl .nil) .nil (lB 0 rfl rfl rfl rfl) (aD.h (aK.ix [7] rfl rfl) .nil (aD.h (aK.ix [1] rfl rfl) .nil aD.z)) ?_
  have⟨r172,w173,h⟩:=fE h
  refine JR.loud rfl rfl rfl (aM.callQ Qj (Es fuel v2 v3 z4 r172 w173) rfl (aA.cons (aC.fact 3 rfl) (aA.cons (aC.fact 4 rfl) .nil))) rfl (fun x174=>(aF.b rfl (aF.h .nil .nil (aF.b rfl (aF.b rfl (aF.b rfl aF.z)))))) fun x174=>aN rfl .nil .nil (dQ rfl) (aD.h .nil .nil (aD.h .nil .nil (aD.h .nil .nil aD.z)))<|bL 9 rfl rfl<|bZ (Know.one ((aU (aC.res 0 rfl) kU))) fun ho175=>?_
  refine aB (Y.bld5 (r:=Value.agg #[Value.pointer (some ⟨b168.1,0,none⟩),x171,Value.int .i64 (p2),Value.int .u32 (r172),Value.func (.func 53) #[] #[]]) rfl rfl rfl rfl rfl (by intro w;simp[Instr.build,Instr.fill,eN,dU,cY,eO,eP,dV,fS,jD ho175])) rfl ?_
  refine bZ (Know.one ((aU (aC.res 0 rfl) kU))) fun ho176=>bI 7 (vs:=[vP b168.1,x171,vI (p2),vU (r172),Value.func (.func 53) #[] #[]]) rfl rfl (cR rfl (cR ho176 (cR rfl (cR rfl (cR rfl rfl))))) rfl rfl rfl<|dtN<|aS ?_
  exact uR (r172,r169,a167.1,a167.2.1,a167.2.2) (b168.1,x171,b168.2.1,b168.2.2.1,b168.2.2.2.1,b168.2.2.2.2.1,b168.2.2.2.2.2) h (.inl rfl) (CI.r1 rfl (RV.cell 7 rfl rfl rfl rfl)) rfl (aK.ix [0,1,2,3,4,5,6,10] rfl rfl) (aA.refl _ _)
 clear h
 intro a20 b21 h
 unfold nF at h
 refine aG (aM.alloc (cs:=[Value.pointer none,Value.slice none 0 0,vI (0:Int),vU (0:Int),Value.nilFunc]) rfl rfl) rfl fun b22=>bZ (Know.one ((aU (aC.res 1 rfl) kU))) fun ho23=>bI 0 (vs:=[vP b21.1,b21.2.1,vI (p2),vU (a20.1),Value.func (.func 53) #[] #[]]) rfl rfl (cR rfl (cR ho23 (cR rfl (cR rfl (cR rfl rfl))))) rfl rfl rfl<|dtN<|sqR<|qkMove rfl<|qkFld rfl<|eJ 0 rfl rfl rfl rfl rfl rfl<|dtN<|sqR<|qkLdA 0 rfl<|qkMove rfl<|qkMove rfl<|yA (A:=Int×Int×Int×Int×Int×Int×List (Int)×List (Int)×List (List (Int))) (B:=Value×Value×Value×List Value) (vs:=[Value.agg #[vP b21.1,b21.2.1,vI (p2),vU (p4),Value.func (.func 53) #[] #[]],v5,v7]) (fun a37=>rP  a37=some r) (fun a37 b38=>Value.tuple #[Value.agg #[b38.1,b38.2.1,b38.2.2.1,vI (a37.1),vI (a37.2.1),vI (a37.2.2.1),vI (a37.2.2.2.1),vU (a37.2.2.2.2.1)],vI (a37.2.2.2.2.2.1)]) (fun a37 b38=>[bO b3 [Value.slice none 0 0,Value.slice none 0 0,Value.slice none 0 0,vI (0:Int),vI (0:Int),vI (0:Int),vI (0:Int),vU (0:Int)] 44,Ar jV b38.1 a37.2.2.2.2.2.2.1,Ar jV b38.2.1 a37.2.2.2.2.2.2.2.1,Ar dJ.raw b38.2.2.1 b38.2.2.2,jG bY b38.2.2.2 a37.2.2.2.2.2.2.2.2]) (fun a37 b38=>[Sl aP v0 p0.2.1,Sl aI v1 p0.2.2,PF (Value.agg #[Value.string p0.1,v0,v1]),Sl bM v2 p1.1,S2 aZ v3 z4 p1.2,S2 bM v5 z6 p3,Sl wR v7 p5,Gb 0 (cellsOf Fb vT)]) (tO.fn (show aR Tryz.prog 54 from Tryz.call54) rfl) Tryz.func54 rfl Tryz.ntmps54 rfl rfl ?_ ?_
 ·refine sqR<|aG (aM.box (cs:=[vP b21.1,b21.2.1,vI (p2),vU (p4),Value.func (.func 53) #[] #[]]) rfl rfl) rfl fun b42=>bZ (Know.one ((aC.fact 6 rfl))) fun ho44=>?_
  refine aG (aM.box (cs:=[v7]) rfl (by rw[jD ho44])) rfl fun b43=>?_
  refine aG (aM.alloc (cs:=[Value.slice none 0 0,Value.slice none 0 0,Value.slice none 0 0,vI (0:Int),vI (0:Int),vI (0:Int),vI (0:Int),vU (0:Int)]) rfl rfl) rfl fun b45=>qkAsg rfl<|dtN<|sqR<|qkLdA 2 rfl<|qkMove rfl<|qkLd 1 rfl<|aB (b_ rfl (aC.fact 6 rfl) rfl) rfl<|aB (sS (cs:=[.tmp 3,.tmp 5]) (vs:=[vP b42,vP b43]) rfl) rfl<|yA (A:=List (Int)×List (Int)×List (List (Int))×Int×Int×Int×Int×Int×Int) (B:=Value×Value×Value×List Value) (vs:=[Value.agg #[vP b21.1,b21.2.1,vI (p2),vU (p4),Value.func (.func 53) #[] #[]],v5,vI (List.length p5:Int),Value.func (.func 82) #[] #[vP b42,vP b43]]) (fun a59=>nG  a59=some r) (fun a59 b60=>Value.tuple #[Value.agg #[b60.1,b60.2.1,b60.2.2.1,vI (a59.2.2.2.1),vI (a59.2.2.2.2.1),vI (a59.2.2.2.2.2.1),vI (a59.2.2.2.2.2.2.1),vU (a59.2.2.2.2.2.2.2.1)],vI (a59.2.2.2.2.2.2.2.2)]) (fun a59 b60=>[bO b45 [Value.slice none 0 0,Value.slice none 0 0,Value.slice none 0 0,vI (0:Int),vI (0:Int),vI (0:Int),vI (0:Int),vU (0:Int)] 44,bO b3 [Value.slice none 0 0,Value.slice none 0 0,Value.slice none 0 0,vI (0:Int),vI (0:Int),vI (0:Int),vI (0:Int),vU (0:Int)] 44,Ar jV b60.1 a59.1,Ar jV b60.2.1 a59.2.1,Ar dJ.raw b60.2.2.1 b60.2.2.2,jG bY b60.2.2.2 a59.2.2.1]) (fun a59 b60=>[Sl aP v0 p0.2.1,Sl aI v1 p0.2.2,PF (Value.agg #[Value.string p0.1,v0,v1]),Sl bM v2 p1.1,S2 aZ v3 z4 p1.2,S2 bM v5 z6 p3,Sl wR v7 p5,Gb 0 (cellsOf Fb vT)]) (tO.fn (show aR Tryz.prog 81 from Tryz.call81) rfl) Tryz.func81 rfl Tryz.ntmps81 rfl rfl ?_ ?_
  ·refine sqR<|aG (aM.box (cs:=[vP b21.1,b21.2.1,vI (p2),vU (p4),Value.func (.func 53) #[] #[]]) rfl rfl) rfl fun b64=>aG (aM.alloc (cs:=[Value.slice none 0 0,Value.slice none 0 0,Value.slice none 0 0,vI (0:Int),vI (0:Int),vI (0:Int),vI (0:Int),vU (0:Int)]) rfl rfl) rfl fun b65=>qkAsg rfl<|dtN<|sqR<|aG (aM.alloc (cs:=[Value.slice none 0 0,Value.slice none 0 0,Value.slice none 0 0,vI (0:Int),vI (0:Int),vI (0:Int),vI (0:Int),vU (0:Int)]) rfl rfl) rfl fun b66=>dtN<|sqR<|qkMove rfl ?_
   have⟨r67,w68,h⟩:=fE h
   refine aG (aM.callQ MR (BW fuel v5 z6 r67 w68) rfl (aA.cons (aC.fact 5 rfl) .nil)) rfl fun x69=>qkAsg rfl<|dtN<|aL ?_
   refine JR.start [0,1,0,7,0,16,63,127] 6 mixedOrders (by decide +kernel) ?_
   refine JR.open (by exact rfl) ?_
   refine jkFld rfl<|jkLd 4 rfl<|jkMove rfl ?_
   have⟨r70,w71,h⟩:=fE h
   refine JR.loud rfl rfl rfl (aM.callQ Qm (tH fuel b21.1 v0 v1 b21.2.2.1 v0 v1 v2 v3 z4 b21.2.2.2.2.2.1 (List.zip b21.2.2.2.2.2.2 a20.2.2.2.2) b21.2.2.2.1 (List.zip b21.2.2.2.2.1 a20.2.2.1) x69.1 (List.zip x69.2 r67) r70 w71) rfl (aA.cons (aC.res 10 rfl) (aA.cons (aC.fact 0 rfl) (aA.cons (aC.fact 1 rfl) (aA.cons (aC.res 13 rfl) (aA.cons (aC.fact 0 rfl) (aA.cons (aC.fact 1 rfl) (aA.cons (aC.fact 3 rfl) (aA.cons (aC.fact 4 rfl) (aA.cons (bD (i:=14) (j:=15) rfl rfl cI) (aA.cons (bD (i:=11) (j:=12) rfl rfl bJ) (aA.cons (bD (i:=0) (j:=1) rfl rfl cI) .nil)))))))))))) rfl (fun x72=>(aF.b rfl (aF.b rfl (aF.b rfl aF.z)))) fun x72=>aN rfl .nil .nil (dD rfl rfl rfl rfl rfl) (aD.h .nil .nil aD.z)<|aN rfl (aK.cons 4 rfl .nil) .nil (dO 0 rfl rfl rfl rfl rfl) (aD.h (aK.ix [4] rfl rfl) .nil aD.z)<|bL 6 rfl rfl<|aB (oY rfl rfl) rfl<|qkAsg rfl<|dtN<|sqR<|qkMove rfl ?_
   have⟨r73,w74,h⟩:=fE h
   refine aG (aM.callQ To (Ey fuel  r73 w74) rfl .nil) rfl fun x75=>aG (aM.alloc (cs:=[vI (0:Int),vI (0:Int),vI (0:Int),vI (0:Int),vU (0:Int)]) rfl rfl) rfl fun b76=>bI 0 (vs:=[vI (r73.1),vI (r73.2.1),vI (r73.2.2.1),vI (r73.2.2.2.1),vU (r73.2.2.2.2)]) rfl rfl rfl rfl rfl rfl<|dtN<|sqR<|qkFld rfl<|qkLd 5 rfl<|qkMove rfl<|qkMove rfl<|qkLdA 0 rfl ?_
   have⟨r77,w78,h⟩:=fE h
   refine aG (qB (vs:=[x69.1,vU (c_ .u32 r70 p4),Value.agg #[vI (r73.1),vI (r73.2.1),vI (r73.2.2.1),vI (r73.2.2.2.1),vU (r73.2.2.2.2)]]) (cs:=[]) Ql rfl (Dn fuel x69.1 (List.zip x69.2 r67) r77 w78) rfl (aA.cons (bD (i:=1) (j:=2) rfl rfl cI) .nil) (fun _ _=>rfl)) rfl fun x79=>dtN<|sqR<|qkFld rfl<|qkLd 3 rfl<|qkMove rfl<|aG (cE (e:=jV) ([(c_ .u32 r70 p4)]) [(0,vU (c_ .u32 r70 p4))] rfl rfl rfl rfl (mM (vU (c_ .u32 r70 p4)) rfl) rfl rfl rfl) rfl fun u80=>jJ (iW jV) ?_
   have⟨j82,h⟩:=aH h
   refine aG (gM 0 kU rfl rfl rfl (aU (aC.res 1 rfl) kU) rfl rfl rfl rfl j82 rfl) rfl fun u81=>qkFld rfl<|bZ (Know.one ((aU (aC.res 0 rfl) kU))) fun ho83=>eJ 5 rfl rfl ho83 rfl rfl rfl<|dtN<|aL<|midL (B:=Value×List Value×Value×Value) (fun a96=>kM  a96=some r) (fun a96 b97=>[(1,b97.1),(8,vP b65),(10,vP b66),(12,vP b76)]) (fun a96 b97=>[Ar jV b97.2.2.2 a96.1,bO b76 [vI (a96.2.1),vI (a96.2.2.1),vI (a96.2.2.2.1),vI (a96.2.2.2.2.1),vU (a96.2.2.2.2.2.1)] 42,Ar dJ.raw b97.1 b97.2.1,jG bY b97.2.1 a96.2.2.2.2.2.2.1,bO b66 [b97.2.2.1,b97.2.2.2,Value.slice none 0 0,vI (0:Int),vI (0:Int),vI (0:Int),vI (0:Int),vU (0:Int)] 44,bO b65 [Value.slice none 0 0,Value.slice none 0 0,Value.slice none 0 0,vI (0:Int),vI (0:Int),vI (0:Int),vI (0:Int),vU (0:Int)] 44,bO b45 [Value.slice none 0 0,Value.slice none 0 0,Value.slice none 0 0,vI (0:Int),vI (0:Int),vI (0:Int),vI (0:Int),vU (0:Int)] 44,bO b3 [Value.slice none 0 0,Value.slice none 0 0,Value.slice none 0 0,vI (0:Int),vI (0:Int),vI (0:Int),vI (0:Int),vU (0:Int)] 44,Ar jV b97.2.2.1 a96.2.2.2.2.2.2.2]) ?_ ?_
   ·refine sqR<|qkMove rfl<|qkMove rfl<|dtN<|aQ<|jJ (iW jV)<|loopL (B:=Value×List Value×Value×Value) (iK fuel p0 p1 p2 p4 p5 a20) (fun a119 b120=>[(1,b120.1),(3,Value.func (.func 82) #[] #[vP b42,vP b43]),(4,vP b64),(8,vP b65),(10,vP b66),(11,vU (a119.1)),(12,vP b76),(39,vI (List.length p5:Int)),(40,vI (a119.2.2.1))]) (fun a119 b120=>[Ar jV b120.2.2.2 a119.2.1,bO b76 [vI (a119.2.2.2.1),vI (a119.2.2.2.2.1),vI (a119.2.2.2.2.2.1),vI (a119.2.2.2.2.2.2.1),vU (a119.2.2.2.2.2.2.2.1)] 42,Ar dJ.raw b120.1 b120.2.1,jG bY b120.2.1 a119.2.2.2.2.2.2.2.2.1,bO b66 [b120.2.2.1,b120.2.2.2,Value.slice none 0 0,vI (0:Int),vI (0:Int),vI (0:Int),vI (0:Int),vU (0:Int)] 44,bO b65 [Value.slice none 0 0,Value.slice none 0 0,Value.slice none 0 0,vI (0:Int),vI (0:Int),vI (0:Int),vI (0:Int),vU (0:Int)] 44,bO b64 [vP b21.1,b21.2.1,vI (p2),vU (p4),Value.func (.func 53) #[] #[]] 97,bO b45 [Value.slice none 0 0,Value.slice none 0 0,Value.slice none 0 0,vI (0:Int),vI (0:Int),vI (0:Int),vI (0:Int),vU (0:Int)] 44,bO b43 [v7] 40,bO b42 [vP b21.1,b21.2.1,vI (p2),vU (p4),Value.func (.func 53) #[] #[]] 97,Ar jV b21.2.1 a20.2.1,bO b21.1 [Value.string (p0.1),v0,v1,vP b21.2.2.1,b21.2.2.2.1] 140,Ar dJ.raw b21.2.2.2.1 b21.2.2.2.2.1,jG bR b21.2.2.2.2.1 a20.2.2.1,bO b21.2.2.1 [Value.string (p0.1),v0,v1,v2,v3,vI (a20.2.2.2.1),b21.2.2.2.2.2.1] 178,Ar dJ.raw b21.2.2.2.2.2.1 b21.2.2.2.2.2.2,jG bY b21.2.2.2.2.2.2 a20.2.2.2.2,bO b3 [Value.slice none 0 0,Value.slice none 0 0,Value.slice none 0 0,vI (0:Int),vI (0:Int),vI (0:Int),vI (0:Int),vU (0:Int)] 44,Ar jV b120.2.2.1 a119.2.2.2.2.2.2.2.2.2]) ((c_ .u32 r70 p4),(([]:List Int)++([(c_ .u32 r70 p4)])),(0:Int),r73.1,r73.2.1,r73.2.2.1,r73.2.2.2.1,r73.2.2.2.2,r67,([]:List Int)) (x69.1,x69.2,(Value.slice none 0 0),u81) h SF (aK.ix [1,3,4,5,6,7,8,9,10,11,13,14,15,16,17,18,19,20,0] rfl rfl) ?_
    clear h
    intro k121 a119 b120 h
    unfold iK at h
    refine sqR<|qkLss rfl<|dtN<|aL ?_
    refine eL h rfl (fun h=>?_) fun h=>?_
    ·refine iV<|aL<|aQ<|sqR<|qkMove rfl<|qkAsg rfl<|dtN<|sqR<|qkMove rfl<|qkMove rfl<|qkMove rfl<|yA (A:=Int) (B:=Unit) (vs:=[vI (a119.2.2.1),vU (a119.1),vP b42,vP b43]) (fun a124=>nH fuel p0 p1 p2 p4 a20 a119 (bG (iK fuel p0 p1 p2 p4 p5 a20) k121) a124=some r) (fun a124 b125=>Value.tuple #[vU (a124),Value.bool (decide (a119.1≠(0:Int)))]) (fun a124 b125=>[Ar jV b120.2.2.2 a119.2.1,bO b76 [vI (a119.2.2.2.1),vI (a119.2.2.2.2.1),vI (a119.2.2.2.2.2.1),vI (a119.2.2.2.2.2.2.1),vU (a119.2.2.2.2.2.2.2.1)] 42,Ar dJ.raw b120.1 b120.2.1,jG bY b120.2.1 a119.2.2.2.2.2.2.2.2.1,bO b66 [b120.2.2.1,b120.2.2.2,Value.slice none 0 0,vI (0:Int),vI (0:Int),vI (0:Int),vI (0:Int),vU (0:Int)] 44,bO b65 [Value.slice none 0 0,Value.slice none 0 0,Value.slice none 0 0,vI (0:Int),vI (0:Int),vI (0:Int),vI (0:Int),vU (0:Int)] 44,bO b64 [vP b21.1,b21.2.1,vI (p2),vU (p4),Value.func (.func 53) #[] #[]] 97,bO b45 [Value.slice none 0 0,Value.slice none 0 0,Value.slice none 0 0,vI (0:Int),vI (0:Int),vI (0:Int),vI (0:Int),vU (0:Int)] 44,bO b43 [v7] 40,bO b42 [vP b21.1,b21.2.1,vI (p2),vU (p4),Value.func (.func 53) #[] #[]] 97,Ar jV b21.2.1 a20.2.1,bO b21.1 [Value.string (p0.1),v0,v1,vP b21.2.2.1,b21.2.2.2.1] 140,Ar dJ.raw b21.2.2.2.1 b21.2.2.2.2.1,jG bR b21.2.2.2.2.1 a20.2.2.1,bO b21.2.2.1 [Value.string (p0.1),v0,v1,v2,v3,vI (a20.2.2.2.1),b21.2.2.2.2.2.1] 178,Ar dJ.raw b21.2.2.2.2.2.1 b21.2.2.2.2.2.2,jG bY b21.2.2.2.2.2.2 a20.2.2.2.2,bO b3 [Value.slice none 0 0,Value.slice none 0 0,Value.slice none 0 0,vI (0:Int),vI (0:Int),vI (0:Int),vI (0:Int),vU (0:Int)] 44,Ar jV b120.2.2.1 a119.2.2.2.2.2.2.2.2.2]) (fun a124 b125=>[Sl aP v0 p0.2.1,Sl aI v1 p0.2.2,PF (Value.agg #[Value.string p0.1,v0,v1]),Sl bM v2 p1.1,S2 aZ v3 z4 p1.2,S2 bM v5 z6 p3,Sl wR v7 p5,Gb 0 (cellsOf Fb vT)]) (NZ (us:=[vI (a119.2.2.1),vU (a119.1)]) (cs:=[vP b42,vP b43]) (show aR Tryz.prog 82 from Tryz.call82) rfl rfl rfl) Tryz.func82 rfl Tryz.ntmps82 rfl rfl ?_ ?_
     ·refine sqR<|qkAsg rfl<|qkAsg rfl<|dtN<|aL ?_
      refine JR.start [0,1,0,4,0,0,0,96,224,511,0,1024,1023,8191] 13 mixedOrders (by decide +kernel) ?_
      refine JR.open (by exact rfl) ?_
      refine jkFld rfl<|jkLd 9 rfl<|jkFld rfl<|jkLd 9 rfl<|jkMove rfl<|jkLd 8 rfl<|jkMove rfl ?_
      have⟨j151,h⟩:=aH h
      refine aN rfl .nil (cV.cons (List.mem_of_getElem? (i:=6) rfl) .nil) (a_ rfl rfl (aC.fact 0 rfl) rfl rfl j151) aD.z<|aN rfl .nil (cV.cons (List.mem_of_getElem? (i:=6) rfl) .nil) (bS rfl (aC.fact 0 rfl) rfl rfl rfl Cc j151) aD.z ?_
      have⟨r152,w153,h⟩:=fE h
      refine JR.loud rfl rfl rfl (aM.callQ Wd (z_ fuel b21.2.1 r152 w153) rfl (aA.cons (aU (aC.res 10 rfl) kU) (aA.cons (aC.fact 7 rfl) .nil))) rfl (fun x154=>(aF.b rfl (aF.b rfl (aF.b rfl (aF.b rfl (aF.b rfl (aF.b rfl (aF.b rfl (aF.b rfl (aF.b rfl aF.z)))))))))) fun x154=>aN rfl .nil .nil (dQ rfl) (aD.h .nil .nil aD.z)<|aN rfl .nil .nil (kR rfl rfl) (aD.h .nil .nil aD.z)<|aN rfl .nil .nil (tS rfl) (aD.b rfl aD.z)<|bL 13 rfl rfl<|qkAsg rfl<|dtN<|aS ?_
      exact uR (r152) () h (.inl rfl) (CI.r2 rfl (RV.tmp rfl) (RV.tmp rfl)) rfl (aK.refl _) (aA.refl _ _)
     clear h
     intro a124 b125 h
     unfold nH at h
     refine qkMove rfl<|aB (bF rfl rfl) rfl<|aB (bF rfl rfl) rfl<|qkAsg rfl<|qkAsg rfl<|dtN<|aL<|sqR<|qkMove rfl<|aB (VD rfl) rfl<|dtN ?_
     refine eL h rfl (fun h=>?_) fun h=>?_
     ·refine nO<|cX<|SQ rfl<|cX<|cX<|tA<|xR ?_
      exact cF (a119.2.1,a119.2.2.2.1,a119.2.2.2.2.1,a119.2.2.2.2.2.1,a119.2.2.2.2.2.2.1,a119.2.2.2.2.2.2.2.1,a119.2.2.2.2.2.2.2.2.1,a119.2.2.2.2.2.2.2.2.2) (b120.1,b120.2.1,b120.2.2.1,b120.2.2.2) h SF (aK.ix [0,1,2,3,4,5,7,17,18] rfl rfl) (aA.refl _ _)
     refine iV<|aL<|sqR<|qkFld rfl<|qkLd 6 rfl<|qkFld rfl<|qkLd 6 rfl<|qkMove rfl<|qkMove rfl ?_
     have⟨r127,w128,h⟩:=fE h
     refine aG (aM.callQ Tp (zZ fuel b21.2.1 r127 w128) rfl (aA.cons (aU (aC.res 10 rfl) kU) (aA.cons (aC.fact 7 rfl) .nil))) rfl fun x129=>aB (oD rfl) rfl<|dtN ?_
     refine zJ h rfl (fun _ h=>?_) fun _ h=>?_
     ·refine sqR ?_
      refine aB (Fp (r:=Value.agg #[Value.slice none 0 0,Value.slice none 0 0,Value.slice none 0 0,Value.int .i64 (0:Int),Value.int .i64 (0:Int),Value.int .i64 (0:Int),Value.int .i64 (0:Int),Value.int .u32 (0:Int)]) (by intro w;simp[Instr.build,Instr.fill,eN,dU,cY,eO,eP,dV,fS])) rfl ?_
      refine bI 5 (vs:=[Value.slice none 0 0,Value.slice none 0 0,Value.slice none 0 0,vI (0:Int),vI (0:Int),vI (0:Int),vI (0:Int),vU (0:Int)]) rfl rfl rfl rfl rfl rfl<|qkAsg rfl<|dtN<|aS<|aJ<|bK<|aJ<|aJ<|bK<|aJ<|jJ (iW jV)<|jJ (iW jV)<|jJ (iW dJ.raw) (jJ (xT bY) ?_)
      exact uR (([]:List Int),([]:List Int),([]:List (List Int)),(0:Int),(0:Int),(0:Int),(0:Int),(0:Int),(11:Int)) ((Value.slice none 0 0),(Value.slice none 0 0),(Value.slice none 0 0),([]:List Value)) h (.inl rfl) (CI.r2 rfl (RV.cell 9 rfl rfl rfl rfl) (RV.tmp rfl)) rfl (aK.ix [11,21,2,3,1,0] rfl rfl) (aA.refl _ _)
     refine iV<|sqR<|qkFld rfl<|qkLd 6 rfl<|qkMove rfl<|qkMove rfl ?_
     have⟨r131,w132,h⟩:=fE h
     refine aG (aM.callQ Tq (AY fuel b21.1 v0 v1 b21.2.2.1 v0 v1 v2 v3 z4 b21.2.2.2.2.2.1 (List.zip b21.2.2.2.2.2.2 a20.2.2.2.2) b21.2.2.2.1 (List.zip b21.2.2.2.2.1 a20.2.2.1) b120.1 (List.zip b120.2.1 a119.2.2.2.2.2.2.2.2.1) r131 w132) rfl (aA.cons (aC.res 11 rfl) (aA.cons (aC.fact 0 rfl) (aA.cons (aC.fact 1 rfl) (aA.cons (aC.res 14 rfl) (aA.cons (aC.fact 0 rfl) (aA.cons (aC.fact 1 rfl) (aA.cons (aC.fact 3 rfl) (aA.cons (aC.fact 4 rfl) (aA.cons (bD (i:=15) (j:=16) rfl rfl cI) (aA.cons (bD (i:=12) (j:=13) rfl rfl bJ) (aA.cons (bD (i:=2) (j:=3) rfl rfl cI) .nil)))))))))))) rfl fun x133=>qkAsg rfl<|dtN<|aL ?_
     refine JR.start [0,1,0,7,0,16,63,127] 6 mixedOrders (by decide +kernel) ?_
     refine JR.open (by exact rfl) ?_
     refine jkFld rfl<|jkLd 8 rfl<|jkMove rfl ?_
     have⟨r134,w135,h⟩:=fE h
     refine JR.loud rfl rfl rfl (aM.callQ Qm (tH fuel b21.1 v0 v1 b21.2.2.1 v0 v1 v2 v3 z4 b21.2.2.2.2.2.1 (List.zip b21.2.2.2.2.2.2 a20.2.2.2.2) b21.2.2.2.1 (List.zip b21.2.2.2.2.1 a20.2.2.1) x133.1 (List.zip x133.2 r131) r134 w135) rfl (aA.cons (aC.res 13 rfl) (aA.cons (aC.fact 0 rfl) (aA.cons (aC.fact 1 rfl) (aA.cons (aC.res 16 rfl) (aA.cons (aC.fact 0 rfl) (aA.cons (aC.fact 1 rfl) (aA.cons (aC.fact 3 rfl) (aA.cons (aC.fact 4 rfl) (aA.cons (bD (i:=17) (j:=18) rfl rfl cI) (aA.cons (bD (i:=14) (j:=15) rfl rfl bJ) (aA.cons (bD (i:=0) (j:=1) rfl rfl cI) .nil)))))))))))) rfl (fun x136=>(aF.b rfl (aF.b rfl (aF.b rfl aF.z)))) fun x136=>aN rfl .nil .nil (dD rfl rfl rfl rfl rfl) (aD.h .nil .nil aD.z)<|aN rfl (aK.cons 8 rfl .nil) .nil (dO 0 rfl rfl rfl rfl rfl) (aD.h (aK.ix [8] rfl rfl) .nil aD.z)<|bL 6 rfl rfl<|aB (oY rfl rfl) rfl<|qkAsg rfl<|dtN<|sqR<|qkLdA 3 rfl<|qkMove rfl<|qkMove rfl ?_
     have⟨r137,w138,h⟩:=fE h
     refine aG (aM.callQ Ts (GW fuel  r137 w138) rfl .nil) rfl fun x139=>qkMove rfl<|aB (bF rfl rfl) rfl<|aB (bF rfl rfl) rfl<|bI 3 (vs:=[vI (r137.1.1),vI (r137.1.2.1),vI (r137.1.2.2.1),vI (r137.1.2.2.2.1),vU (r137.1.2.2.2.2)]) rfl rfl rfl rfl rfl rfl<|dtN<|sqR<|qkFld rfl<|qkLd 8 rfl<|qkMove rfl<|qkMove rfl<|qkLdA 3 rfl ?_
     have⟨r140,w141,h⟩:=fE h
     refine aG (qB (vs:=[x133.1,vU (c_ .u32 r134 p4),Value.agg #[vI (r137.1.1),vI (r137.1.2.1),vI (r137.1.2.2.1),vI (r137.1.2.2.2.1),vU (r137.1.2.2.2.2)]]) (cs:=[]) Ql rfl (Dn fuel x133.1 (List.zip x133.2 r131) r140 w141) rfl (aA.cons (bD (i:=0) (j:=1) rfl rfl cI) .nil) (fun _ _=>rfl)) rfl fun x142=>dtN<|sqR<|qkFld rfl<|qkLd 6 rfl<|qkMove rfl<|aG (cE (e:=jV) ([a124]) [(0,vU (a124))] rfl rfl rfl rfl (mM (vU (a124)) rfl) rfl rfl rfl) rfl fun u143=>?_
     have⟨j145,h⟩:=aH h
     refine aG (gM 21 kU rfl rfl rfl (aU (aC.res 0 rfl) kU) rfl rfl rfl rfl j145 rfl) rfl fun u144=>qkFld rfl<|bZ (Know.one ((aU (aC.res 21 rfl) kU))) fun ho146=>eJ 7 rfl rfl ho146 rfl rfl rfl<|dtN<|aO<|qkFld rfl<|qkLd 7 rfl<|qkMove rfl<|aG (cE (e:=jV) ([(c_ .u32 r134 p4)]) [(0,vU (c_ .u32 r134 p4))] rfl rfl rfl rfl (mM (vU (c_ .u32 r134 p4)) rfl) rfl rfl rfl) rfl fun u147=>?_
     have⟨j149,h⟩:=aH h
     refine aG (gM 4 kU rfl rfl rfl (aU (aC.res 0 rfl) kU) rfl rfl rfl rfl j149 rfl) rfl fun u148=>qkFld rfl<|bZ (Know.one ((aU (aC.res 4 rfl) kU))) fun ho150=>eJ 8 rfl rfl ho150 rfl rfl rfl<|dY<|inT<|aO<|qkAdd rfl<|qkMove rfl<|dtN ?_
     exact nN ((c_ .u32 r134 p4),(a119.2.1++([(c_ .u32 r134 p4)])),(wI .i64 (a119.2.2.1+(1:Int))),r137.1.1,r137.1.2.1,r137.1.2.2.1,r137.1.2.2.2.1,r137.1.2.2.2.2,r131,(a119.2.2.2.2.2.2.2.2.2++[a124])) (x133.1,x133.2,u144,u148) h SF (aK.ix [4,5,2,3,8,9,10,11,12,13,14,15,16,17,18,19,20,21,22] rfl rfl) (aA.refl _ _)
    refine xO ?_
    exact cF (a119.2.1,a119.2.2.2.1,a119.2.2.2.2.1,a119.2.2.2.2.2.1,a119.2.2.2.2.2.2.1,a119.2.2.2.2.2.2.2.1,a119.2.2.2.2.2.2.2.2.1,a119.2.2.2.2.2.2.2.2.2) (b120.1,b120.2.1,b120.2.2.1,b120.2.2.2) h SF (aK.ix [0,1,2,3,4,5,7,17,18] rfl rfl) (aA.refl _ _)
   clear h
   intro a96 b97 h
   unfold kM at h
   refine aL ?_
   refine JR.start [0,0,1,5,15,31] 4 mixedOrders (by decide +kernel) ?_
   refine JR.open (by exact rfl) ?_
   refine jkMove rfl<|jkLdA 1 rfl<|jkFld rfl<|bP (Know.one (aC.sl (bD (i:=2) (j:=3) rfl rfl cI))) fun ho99=>rR rfl rfl rfl (Jt 4 rfl rfl ho99 rfl rfl rfl) (fun x98=>(aF.b rfl (aF.h (aK.ix [1] rfl rfl) .nil (aF.b rfl aF.z)))) fun x98=>bL 4 rfl rfl<|qkFld rfl<|MF (Fl 4 (us:=[vI (a96.2.1),vI (a96.2.2.1),vI (a96.2.2.2.1),vI (a96.2.2.2.2.1),vU (a96.2.2.2.2.2.1)]) rfl rfl rfl rfl rfl rfl rfl rfl rfl) fun x100=>dtN<|sqR<|qkLdA 4 rfl<|bZ (Know.one ((aU (aC.res 8 rfl) kU))) fun ho101=>bZ (Know.one ((aU (aC.res 0 rfl) kU))) fun ho102=>bZ (Know.one (aC.sl (bD (i:=2) (j:=3) rfl rfl cI))) fun ho103=>bI 5 (vs:=[b97.2.2.1,b97.2.2.2,b97.1,vI (a96.2.1),vI (a96.2.2.1),vI (a96.2.2.2.1),vI (a96.2.2.2.2.1),vU (a96.2.2.2.2.2.1)]) rfl rfl (cR ho101 (cR ho102 (cR ho103 (cR rfl (cR rfl (cR rfl (cR rfl (cR rfl rfl)))))))) rfl rfl rfl<|qkAsg rfl<|dtN<|aS ?_
   exact uR (a96.2.2.2.2.2.2.2,a96.1,a96.2.2.2.2.2.2.1,a96.2.1,a96.2.2.1,a96.2.2.2.1,a96.2.2.2.2.1,a96.2.2.2.2.2.1,(0:Int)) (b97.2.2.1,b97.2.2.2,b97.1,b97.2.1) h (.inl rfl) (CI.r2 rfl (RV.cell 5 rfl rfl rfl rfl) (RV.tmp rfl)) rfl (aK.ix [6,7,8,0,2,3] rfl rfl) (aA.refl _ _)
  clear h
  intro a59 b60 h
  unfold nG at h
  refine aB (bF rfl rfl) rfl<|aB (bF rfl rfl) rfl<|bZ (Know.one ((aU (aC.res 2 rfl) kU))) fun ho61=>bZ (Know.one ((aU (aC.res 3 rfl) kU))) fun ho62=>bZ (Know.one (aC.sl (bD (i:=4) (j:=5) rfl rfl cI))) fun ho63=>bI 0 (vs:=[b60.1,b60.2.1,b60.2.2.1,vI (a59.2.2.2.1),vI (a59.2.2.2.2.1),vI (a59.2.2.2.2.2.1),vI (a59.2.2.2.2.2.2.1),vU (a59.2.2.2.2.2.2.2.1)]) rfl rfl (cR ho61 (cR ho62 (cR ho63 (cR rfl (cR rfl (cR rfl (cR rfl (cR rfl rfl)))))))) rfl rfl rfl<|qkAsg rfl<|dtN<|aS ?_
  exact uR (a59.2.2.2.1,a59.2.2.2.2.1,a59.2.2.2.2.2.1,a59.2.2.2.2.2.2.1,a59.2.2.2.2.2.2.2.1,a59.2.2.2.2.2.2.2.2,a59.1,a59.2.1,a59.2.2.1) (b60.1,b60.2.1,b60.2.2.1,b60.2.2.2) h (.inl rfl) (CI.r2 rfl (RV.cell 0 rfl rfl rfl rfl) (RV.tmp rfl)) rfl (aK.ix [1,2,3,4,5] rfl rfl) (aA.refl _ _)
 clear h
 intro a37 b38 h
 unfold rP at h
 refine aB (bF rfl rfl) rfl<|aB (bF rfl rfl) rfl<|bZ (Know.one ((aU (aC.res 1 rfl) kU))) fun ho39=>bZ (Know.one ((aU (aC.res 2 rfl) kU))) fun ho40=>bZ (Know.one (aC.sl (bD (i:=3) (j:=4) rfl rfl cI))) fun ho41=>bI 0 (vs:=[b38.1,b38.2.1,b38.2.2.1,vI (a37.1),vI (a37.2.1),vI (a37.2.2.1),vI (a37.2.2.2.1),vU (a37.2.2.2.2.1)]) rfl rfl (cR ho39 (cR ho40 (cR ho41 (cR rfl (cR rfl (cR rfl (cR rfl (cR rfl rfl)))))))) rfl rfl rfl<|qkAsg rfl<|dtN<|aS ?_
 cases h
 exact jF (b38.1,b38.2.1,b38.2.2.1,b38.2.2.2) rfl rfl (RV.cell 0 rfl rfl rfl rfl) (RV.tmp rfl) (aK.ix [1,2,3,4] rfl rfl) aA.nil
end Go.Proofs.YtigggfnchamobaaGreatDoor
end
section
namespace Go.Proofs.YtigggfnchamobaaGreatDoor
open Go Go.Sx
abbrev CT:=Int×Int×Int×Int×Int
theorem BQ (l:List Int) (hl:l.length<=900):∃b,jB 1000 l=some b:=by
 unfold jB
 have:=Bt (step:=kJ l) (Q:=fun _:Bool=>True) (fun i:Int=>∃k:Nat,i=(k:Int)∧k<=l.length) (fun i=>l.length - i.toNat) (fun i ag hI hrec=>by
  obtain⟨k,rfl,hk⟩:=hI
  unfold kJ nA
  by_cases hlt:k<l.length
  ·rw[if_pos (by omega),dK (by omega)]
   split
   ·exact⟨_,rfl,trivial⟩
   ·rw[eW (by omega)]
    exact hrec _ ⟨k+1,rfl,by omega⟩ (by omega)
  ·rw[if_neg (by omega)]
   exact⟨_,rfl,trivial⟩) 1000 0 ⟨0,rfl,by omega⟩ (by omega)
 obtain⟨b,hb,_⟩:=this
 exact⟨b,hb⟩
theorem Im (k:CT):∃b,mC 1000 k=some b:=by
 obtain⟨q,hq⟩:=BQ [k.2.2.2.2] (by simp)
 have key:∀a,∃b,fR 1000 k a=some b:=by
  intro a
  unfold fR kV
  split
  ·exact⟨_,rfl⟩
  ·split
   ·exact⟨_,rfl⟩
   ·split
    ·split
     ·rw[bH hq];exact⟨_,rfl⟩
     ·exact⟨_,rfl⟩
    ·exact⟨_,rfl⟩
 unfold mC
 repeat' split
 all_goals exact key _
theorem OW {t:Nat} (ht:t<4294967296):∃n,lJ 1000 (t:Int)=some n:=by
 have hb:(List.length SE:Int)=256:=by decide +kernel
 have h255:∀a:Nat,a<4294967296->0<=c_ .u32 (a:Int) 255∧c_ .u32 (a:Int) 255<256:=fun a ha=>by
  rw[show(255:Int)=((255:Nat):Int)from rfl,Eg ha (by omega)]
  have:a &&& 255<=255:=Nat.and_le_right
  omega
 have hs:∀k:Nat,k<32->oZ .u32 (t:Int) (k:Int)=((t / 2^k:Nat):Int):=fun k hk=>Ir hk
 have s24:oZ .u32 (t:Int) 24=((t / 2^24:Nat):Int):=hs 24 (by omega)
 have s16:oZ .u32 (t:Int) 16=((t / 2^16:Nat):Int):=hs 16 (by omega)
 have s8:oZ .u32 (t:Int) 8=((t / 2^8:Nat):Int):=hs 8 (by omega)
 unfold lJ
 rw[hb,s24,s16,s8,dK (by decide),dK (by omega),dK (by decide),dK (h255 _ (by omega)),dK (by decide),dK (h255 _ (by omega)),dK (h255 _ ht)]
 exact⟨_,rfl⟩
theorem PY (k:CT) {t:Nat} (ht:t<4294967296) (e:Int):∃r,mU 1000 k (t:Int) e=some r:=by
 obtain⟨b,hb⟩:=Im k
 obtain⟨q,hq⟩:=BQ [(t:Int),e] (by simp)
 obtain⟨n,hn⟩:=OW ht
 have key:∀a,∃r,nS 1000 k (t:Int) e a=some r:=by
  intro a
  unfold nS qF
  split
  ·exact⟨_,rfl⟩
  ·split
   ·exact⟨_,rfl⟩
   ·rw[bH hn]
    split<;>exact⟨_,rfl⟩
 unfold mU
 rw[bH (show mC 1000 _=some b from hb)]
 split
 ·exact⟨_,rfl⟩
 ·split
  ·exact key _
  ·rw[bH hq];exact key _

def MQ (g:GR) (v i:Nat):Int:=zU (row g (iO (row g v) i).1.toNat) (v:Int)
def Ce (g:GR):List (List Int):=(List.range g.2.length).map fun v=>(List.range (row g v).length).map (MQ g v)
def dL (p:Eu) (g:GR):yM:=(p,g,kL g g.2.length,Ce g)
theorem RZ {g:GR} (hV:VG g) (p:Eu) (kind:Int) (c:List (List Int)) (lv:Int) (ws:List Int):
  bG (eF 1000 p g kind c lv ws) 1000 ((0:Int),(0:Int),(List.replicate (Int.toNat (List.length g.2:Int)) ([]:List Int)))=kN 1000 p g kind c lv ws (kL g g.2.length,Ce g):=by
 have h24:=hV.n24
 have hlen:=hV.len
 let f:Nat->List Int:=fun v=>(List.range (row g v).length).map (MQ g v)
 let Q:Nat->List (List Int):=fun k=>(List.range k).map f++List.replicate (g.2.length - k) []
 have hQ:∀k,k<=g.2.length->(Q k).length=g.2.length:=fun k hk=>by simp[Q];omega
 rw[show List.replicate (Int.toNat (List.length g.2:Int)) ([]:List Int)=Q 0 by simp[Q]]
 refine dW (step:=eF 1000 p g kind c lv ws) g.2.length (fun k=>((k:Int),kL g k,Q k)) (fun k ag hk=> ?_) (fun ag=> ?_) 1000 (by omega)
 ·have hdeg:=(hV.node k hk).deg
  have hq:k<(Q k).length:=by rw[hQ k (by omega)];exact hk
  unfold eF
  dsimp only
  rw[if_pos (by omega),dK (by omega),dK (by omega)]
  let Rw:Nat->List Int:=fun j=>(List.range j).map (MQ g k)
  have e0:Q k=(Q k).set k (Rw 0):=by
   have:at' (Q k) (k:Int)=Rw 0:=by
    rw[kA hq];simp[Q,Rw]
   rw[<-this]
   exact(Cq (Q k) (k:Int) (by simpa using hq) (by omega)).symm
  rw[show(Q k)=(Q k).set k (Rw 0)from e0]
  have hgen:∀A:List (List Int),A.length=g.2.length->bG (gA 1000 g ((k:Int),kL g k,(Q k).set k (Rw 0)) ag) 1000 ((0:Int),A.set k (Rw 0))=ag (((k+1:Nat):Int),kL g (k+1),A.set k (f k)):=by
   intro A hA
   refine dW (step:=gA 1000 g ((k:Int),kL g k,(Q k).set k (Rw 0)) ag) (K:=ag (((k+1:Nat):Int),kL g (k+1),A.set k (f k))) (row g k).length (fun j=>((j:Int),A.set k (Rw j))) (fun j ag2 hj=> ?_) (fun ag2=> ?_) 1000 (by omega)
   ·obtain⟨u,hu,hue⟩:=hV.to hk hj
    have hdu:=(hV.node u hu).deg
    have a1:at' (A.set k (Rw j)) (k:Int)=Rw j:=by rw[AI _ _ _ _ (by omega),if_pos rfl]
    have hRl:(Rw j).length=j:=by simp[Rw]
    unfold gA
    dsimp only
    rw[if_pos (show(j:Int)<((row g k).length:Int) by omega),dK (show 0<=(j:Int)∧(j:Int)<((row g k).length:Int) by omega),dK (by simp only[List.length_set];omega),show at' (at' g.2 (k:Int)) (j:Int)=iO (row g k) j from rfl,hue,bH (show n_ 1000 _ (u:Int) (k:Int)=_ from OY g u (k:Int) hu (by omega)),a1,dK (by rw[hRl];simp;omega),dK (by simp only[List.length_set];omega),eW (by omega),Int.toNat_natCast,List.set_set]
    have:Rw j++[zU (row g u) (k:Int)]=Rw (j+1):=by
     simp only[Rw];rw[List.range_succ,List.map_append,List.map_singleton,MQ,hue,Int.toNat_natCast]
    rw[this]
   ·unfold gA nL
    dsimp only
    rw[if_neg (show¬((row g k).length:Int)<((row g k).length:Int)from Int.lt_irrefl _),eW (by omega)]
    rfl
  have:=hgen (Q k) (hQ k (by omega))
  rw[vH f [] g.2.length k hk]at this
  exact this
 ·unfold eF
  dsimp only
  rw[if_neg (by omega)]
  simp[Q,Ce,f]
end Go.Proofs.YtigggfnchamobaaGreatDoor
end
section
namespace Go.Proofs.YtigggfnchamobaaGreatDoor
open Go Go.Sx
def BG (S:yM) (R:List RL) (lv:Nat) (c:List (List Int)):Nat:=Xh S R c &&& lv
theorem TX (S:yM) (R:List RL) (c:List (List Int)) (v:Nat):(Xh S R c).testBit v=(decide (v<S.2.1.2.length)&&decide (0<=rD S R c v)):=vA _ v _
theorem EL (S:yM) (R:List RL) (lv:Nat) (c:List (List Int)) (v:Nat):(BG S R lv c).testBit v=true↔v<S.2.1.2.length∧0<=rD S R c v∧lv.testBit v=true:=by
 unfold BG
 rw[Nat.testBit_and,TX,Bool.and_eq_true,Bool.and_eq_true,decide_eq_true_eq,decide_eq_true_eq,and_assoc]
theorem Wp {S:yM} (hV:VG S.2.1) (R:List RL) (c:List (List Int)):Xh S R c<4294967296:=zS _ (by have:=hV.n24;omega)
theorem Wq (S:yM) (R:List RL) (lv:Nat) (c:List (List Int)):Pv S.2.1 (BG S R lv c):=fun i hi=>((EL S R lv c i).1 hi).1
def Cn (ch:List Nat):List Int:=ch.map fun t=>((t:Nat):Int)
section
variable {p:Eu} {g:GR} {R:List RL}
theorem OF (hV:VG g) (hp:Cd g p.2.1) (hz:p.2.2.map xN=FP R) (hR:w_ p.2.1.length R=true) {kind:Int} (hk1:1<=kind) (hk4:kind<=4) {c0:List (List Int)} (hc0:UZ g c0 p.2.1) {lv:Nat} (hlv:lv<4294967296) {ws:List Int} (hws:ws.length<=900) (hw:∀k:Nat,k<ws.length->∃m:Nat,at' ws (k:Int)=(m:Int)∧m<4294967296)
  (P:Nat->List (List Int)->List Nat->CT->Prop) (h0:P 0 c0 [] (0,0,0,0,c_ .u32 ((BG (dL p g) R lv c0:Nat):Int) 16777215))
  (hstep:∀k c ch cnt t cnt' err,k<ws.length->tR g p.2.1.length c->P k c ch cnt->BG (dL p g) R lv c≠0->t≠0->(∀i,t.testBit i=true->(BG (dL p g) R lv c).testBit i=true)->(kind=2->∀v u,t.testBit v=true->t.testBit u=true->¬Ia g v u)->(kind=4->t=BG (dL p g) R lv c)->
   mU 1000 cnt (t:Int) ((BG (dL p g) R lv (qO (dL p g) p.2.1 R c t):Nat):Int)=some (cnt',err)->P (k+1) (qO (dL p g) p.2.1 R c t) (ch++[t]) cnt'):
  ∃k c ch cnt ens,jC 1000 p g kind c0 (lv:Int) ws=some ((Cn ch,ens,c,cnt),0)∧P k c ch cnt∧tR g p.2.1.length c∧k<=ws.length∧ch.length=k∧ens.length=k+1∧at' ens (k:Int)=((BG (dL p g) R lv c:Nat):Int)∧(k=ws.length∨BG (dL p g) R lv c=0):=by
 have h24:=hV.n24
 have hvl:=hp.len
 let S:=dL p g
 have hVS:VG S.2.1:=hV
 obtain⟨net,hnet,hN⟩:=WO hV
 have hcheck:tG 1000 p g kind c0 (ws.length:Int)=some 0:=by
  unfold tG
  rw[bH (show oA 1000 _ _ c0=_ from Qs hV hp hc0),if_neg (by decide)]
  have:qJ 1000 kind=some true:=by
   unfold qJ o_
   rw[if_pos hk1,decide_eq_true hk4]
  rw[bH this,if_neg (by decide),if_neg (by omega)]
 unfold jC
 rw[bH (show tG 1000 _ _ kind c0 _=_ from hcheck),if_neg (by decide),dK (by omega),RZ hV p kind c0 (lv:Int) ws]
 unfold kN nK
 rw[bH (show jT 1000 _ _=_ from KN hV hp)]
 unfold nJ
 rw[bH (show mD 1000 _=_ from hnet),bH (show qL 1000 _=_ from P_ hV)]
 have hen:∀c,tR g p.2.1.length c->cT 1000 (p,(p,g,kL g g.2.length,Ce g),Ab g p.2.1) c=some ((Xh S R c:Nat):Int):=fun c hc=>LP hV hc hz hR (by simp[Ab])
 have hand:∀c,c_ .u32 ((Xh S R c:Nat):Int) (lv:Int)=((BG S R lv c:Nat):Int):=fun c=>Eg (Wp hVS R c) hlv
 unfold nF
 dsimp only
 rw[bH (Nc c0 (by rw[hc0.len];omega) (fun v hv=>by rw[hc0.row v (by rw[<-hc0.len];exact hv)];omega)),bH (show cT 1000 _ c0=_ from hen c0 hc0.shape),hand,bH (show sJ 1000 _=some (0,0,0,0,c_ .u32 ((BG S R lv c0:Nat):Int) 16777215)from rfl),bH (show qY 1000 _ _ _=some ()from rfl),dK (by simp),List.nil_append]
 let A20:Int×List Int×(List (List (Int×Int)))×Int×List (List Int):=(((2^g.2.length - 1:Nat):Int),net,Ab g p.2.1,kL g g.2.length,Ce g)
 have fin:∀k c ch cnt ens,P k c ch cnt->tR g p.2.1.length c->k<=ws.length->ch.length=k->ens.length=k+1->at' ens (k:Int)=((BG S R lv c:Nat):Int)->(k=ws.length∨BG S R lv c=0)->
   OK (fun r:(List Int×List Int×List (List Int)×CT)×Int=>∃k c ch cnt ens,r=((Cn ch,ens,c,cnt),0)∧P k c ch cnt∧tR g p.2.1.length c∧k<=ws.length∧ch.length=k∧ens.length=k+1∧at' ens (k:Int)=((BG S R lv c:Nat):Int)∧(k=ws.length∨BG S R lv c=0)) (kM (ens,cnt.1,cnt.2.1,cnt.2.2.1,cnt.2.2.2.1,cnt.2.2.2.2,c,Cn ch)):=
  fun k c ch cnt ens a1 a2 a3 a4 a5 a6 a7=>⟨_,rfl,k,c,ch,cnt,ens,rfl,a1,a2,a3,a4,a5,a6,a7⟩
 have key:=Bt (step:=iK 1000 p g kind (lv:Int) ws A20) (Q:=fun r:(List Int×List Int×List (List Int)×CT)×Int=>∃k c ch cnt ens,r=((Cn ch,ens,c,cnt),0)∧P k c ch cnt∧tR g p.2.1.length c∧k<=ws.length∧ch.length=k∧ens.length=k+1∧at' ens (k:Int)=((BG S R lv c:Nat):Int)∧(k=ws.length∨BG S R lv c=0))
  (fun x=>∃(k:Nat) (c:List (List Int)) (ch:List Nat) (cnt:CT) (ens:List Int),x=(((BG S R lv c:Nat):Int),ens,(k:Int),cnt.1,cnt.2.1,cnt.2.2.1,cnt.2.2.2.1,cnt.2.2.2.2,c,Cn ch)∧P k c ch cnt∧tR g p.2.1.length c∧k<=ws.length∧ch.length=k∧ens.length=k+1∧at' ens (k:Int)=((BG S R lv c:Nat):Int)) (fun x=>ws.length - x.2.2.1.toNat) (fun x ag hI hrec=>by
  obtain⟨k,c,ch,cnt,ens,rfl,b1,b2,b3,b4,b5,b6⟩:=hI
  unfold iK
  dsimp only
  by_cases hlt:k<ws.length
  rotate_left
  ·rw[if_neg (by omega)]
   exact fin k c ch cnt ens b1 b2 b3 b4 b5 b6 (.inl (by omega))
  obtain⟨w,hwe,hw32⟩:=hw k hlt
  have hin:Pv g (BG S R lv c):=Wq S R lv c
  obtain⟨t,ht,hsub,hne⟩:=Mk hV hN hk1 hk4 hin hw32
  rw[if_pos (by omega),dK (by omega),hwe,bH (show eT 1000 net kind _ _=_ from ht)]
  unfold nH
  dsimp only
  by_cases he0:BG S R lv c=0
  ·rw[if_pos (by omega)]
   exact fin k c ch cnt ens b1 b2 b3 b4 b5 b6 (.inr he0)
  obtain⟨ht0,hperm,hk2,hk4'⟩:=hne he0
  have ht32:t<4294967296:=by have:=Pv.lt hV (fun i hi=>hin i (hsub i hi));omega
  rw[if_neg (by omega),bH (show eS 1000 net kind _ _=_ from hperm),if_neg (by decide)]
  have hst:fN 1000 (p,(p,g,kL g g.2.length,Ce g),Ab g p.2.1) c (t:Int)=some (qO S p.2.1 R c t):=UM (gr:=kL g g.2.length) (bk:=Ce g) hV hp b2 hz hR ht32 (fun v hv=>((EL S R lv c v).1 (hsub v hv)).2.1)
  have hsh:tR g p.2.1.length (qO S p.2.1 R c t):=b2.step
  obtain⟨⟨cnt',err⟩,hadd⟩:=PY cnt ht32 ((BG S R lv (qO S p.2.1 R c t):Nat):Int)
  rw[bH (show fN 1000 _ c (t:Int)=_ from hst),bH (show cT 1000 _ _=_ from hen _ hsh),hand,bH (show mU 1000 _ (t:Int) _=_ from hadd),bH (show qY 1000 _ _ _=some ()from rfl),dK (by simp[Cn];omega),dK (by simp;omega),eW (by omega)]
  refine hrec _ ⟨k+1,qO S p.2.1 R c t,ch++[t],cnt',ens++[((BG S R lv (qO S p.2.1 R c t):Nat):Int)],by simp[Cn],hstep k c ch cnt t cnt' err hlt b2 b1 he0 ht0 hsub hk2 hk4' hadd,hsh,by omega,by simp[b4],by simp[b5],?_⟩ (by dsimp only;omega)
  exact Ip (pre:=ens) (rest:=[]) (by simp) b5) 1000 (((BG S R lv c0:Nat):Int),[((BG S R lv c0:Nat):Int)],(0:Int),0,0,0,0,c_ .u32 ((BG S R lv c0:Nat):Int) 16777215,c0,[])
  ⟨0,c0,[],(0,0,0,0,c_ .u32 ((BG S R lv c0:Nat):Int) 16777215),[((BG S R lv c0:Nat):Int)],rfl,h0,hc0.shape,by omega,rfl,rfl,rfl⟩ (by dsimp only;omega)
 obtain⟨r,hr,k,c,ch,cnt,ens,rfl,hrest⟩:=key
 exact⟨k,c,ch,cnt,ens,hr,hrest⟩
end
end Go.Proofs.YtigggfnchamobaaGreatDoor
end
section
namespace Go.Proofs.YtigggfnchamobaaGreatDoor
open Go.Sx
def rB  (a2:Bool):Option (Bool):=
 some (a2)
def oE (fuel:Nat) (p0:Int) (p1:Int):Option (Bool):=
 if(0:Int)<=p1 then(if p1<(32:Int)then(ck (0<=(wI .u64 p1)) (rB  (decide ((c_ .u32 (oZ .u32 p0 (wI .u64 p1)) (1:Int))=(1:Int)))))else(rB  (false)))else(rB  (false))
theorem Iu:aR Tryz.prog 21:=Tryz.call21
theorem x_ (fuel:Nat) {p0:Int} {p1:Int} (r:Bool) (h:oE fuel p0 p1=some r):
  aV Tryz.prog 21 #[vU (p0),vI (p1)] [] (fun x:Unit=>Value.bool (r)) (fun x l=>l) (fun _ l=>l):=by
 refine aV.of Tryz.func21 rfl Tryz.ntmps21 rfl fun c=>?_
 unfold oE at h
 refine sqR<|qkAsg rfl<|dtN<|aL<|midU (fun a2=>rB  a2=some r) (fun a2 b3=>[(4,Value.bool (a2))]) (fun a2 b3=>[]) ?_ ?_
 ·refine aO<|qkMove rfl<|aB (Ef rfl rfl) rfl<|qkMove rfl ?_
  refine Cy h rfl (fun _ h=>?_) fun _ h=>?_
  ·refine gyMove rfl<|aT rfl (Hm rfl rfl) rfl<|aB (bW rfl rfl) rfl<|qkMove rfl ?_
   refine Cy h rfl (fun _ h=>?_) fun _ h=>?_
   ·refine gyMove rfl<|gyMove rfl<|aT rfl (Fq rfl rfl rfl) rfl ?_
    have⟨j6,h⟩:=aH h
    refine aT rfl (AG rfl rfl j6) rfl<|aT rfl (oY rfl rfl) rfl<|aT rfl (JK rfl rfl) rfl<|aB (bW rfl rfl) rfl<|qkAsg rfl<|dtN ?_
    exact iJ (decide ((c_ .u32 (oZ .u32 p0 (wI .u64 p1)) (1:Int))=(1:Int))) () h SF rfl
   refine gdSkip rfl<|gdSkip rfl<|gdSkip rfl<|gdSkip rfl<|gdSkip rfl<|gdSkip rfl<|aB (cA rfl rfl) rfl<|qkAsg rfl<|dtN ?_
   exact iJ (false) () h SF rfl
  refine gdSkip rfl<|gdSkip rfl<|aB (cA rfl rfl) rfl<|qkMove rfl<|gdSkip rfl<|gdSkip rfl<|gdSkip rfl<|gdSkip rfl<|gdSkip rfl<|gdSkip rfl<|aB (cA rfl rfl) rfl<|qkAsg rfl<|dtN ?_
  exact iJ (false) () h SF rfl
 clear h
 intro a2 b3 h
 unfold rB at h
 refine aS ?_
 cases h
 exact lP rfl
end Go.Proofs.YtigggfnchamobaaGreatDoor
end
section
namespace Go.Proofs.YtigggfnchamobaaGreatDoor
open Go.Sx
def t_  (a5:List (Int)):Option (List (Int)):=
 some (a5)
def uA (a10:Int×List (Int)) (ag9:(Int×List (Int))->Option (List (Int))) (a15:List (Int)):Option (List (Int)):=
 ag9 ((wI .i64 (a10.1+(1:Int))),a15)
def qH (a20:Int×List (Int)) (ag19:(Int×List (Int))->Option (List (Int))) (a25:List (Int)):Option (List (Int)):=
 ag19 ((wI .i64 (a20.1+(1:Int))),a25)
def lH (fuel:Nat) (p0:List (Int)×List (Int)×List (List (Int))×(Int×Int×Int×Int×Int)) (p1:Int) (a10:Int×List (Int)) (ag9:(Int×List (Int))->Option (List (Int))) (a20:Int×List (Int)) (ag19:(Int×List (Int))->Option (List (Int))):Option (List (Int)):=
 if a20.1<p1 then(ck (0<=a10.1∧a10.1<(List.length p0.1:Int)) (Option.bind (oE fuel (at' p0.1 a10.1) a20.1) fun r28=>(if r28=true then(ck (0<=a20.1∧a20.1<(List.length a20.2:Int)) (ck (0<=a20.1∧a20.1<(List.length a20.2:Int)) (qH a20 ag19 (List.set a20.2 (Int.toNat a20.1) (wI .i64 ((at' a20.2 a20.1)+(1:Int)))))))else(qH a20 ag19 (a20.2)))))else(uA a10 ag9 (a20.2))
def iC (fuel:Nat) (p0:List (Int)×List (Int)×List (List (Int))×(Int×Int×Int×Int×Int)) (p1:Int) (a10:Int×List (Int)) (ag9:(Int×List (Int))->Option (List (Int))):Option (List (Int)):=
 if a10.1<(List.length p0.1:Int)then(bG (lH fuel p0 p1 a10 ag9) fuel ((0:Int),a10.2))else(t_  (a10.2))
def pP (fuel:Nat) (p0:List (Int)×List (Int)×List (List (Int))×(Int×Int×Int×Int×Int)) (p1:Int):Option (List (Int)):=
 ck (0<=p1∧p1<=1099511627) (bG (iC fuel p0 p1) fuel ((0:Int),(List.replicate (Int.toNat p1) (0:Int))))
theorem VN:aR Tryz.prog 20:=Tryz.call20
theorem Ha (fuel:Nat) {p0:List (Int)×List (Int)×List (List (Int))×(Int×Int×Int×Int×Int)} {p1:Int} (v0:Value)  (v1:Value)  (v2:Value)  (z3:List (Value×List (Int))) (r:List (Int)) (h:pP fuel p0 p1=some r):
  aV Tryz.prog 20 #[Value.agg #[v0,v1,v2,vI (p0.2.2.2.1),vI (p0.2.2.2.2.1),vI (p0.2.2.2.2.2.1),vI (p0.2.2.2.2.2.2.1),vU (p0.2.2.2.2.2.2.2)],vI (p1)] [Sl wR v0 p0.1,Sl wR v1 p0.2.1,S2 bM v2 z3 p0.2.2.1] (fun x:Value=>x) (fun x l=>Ar bY x r::l) (fun _ l=>l):=by
 refine aV.of Tryz.func20 rfl Tryz.ntmps20 rfl fun c=>?_
 unfold pP at h
 refine sqR<|aG (aM.box (cs:=[v0,v1,v2,vI (p0.2.2.2.1),vI (p0.2.2.2.2.1),vI (p0.2.2.2.2.2.1),vI (p0.2.2.2.2.2.2.1),vU (p0.2.2.2.2.2.2.2)]) rfl rfl) rfl fun b1=>qkAsg rfl<|dtN<|sqR<|qkMove rfl ?_
 have⟨j2,h⟩:=aH h
 refine aG (oH (e:=bY) (0:Int) rfl rfl rfl rfl j2 rfl rfl rfl) rfl fun u3=>qkAsg rfl<|dtN<|aL<|midU (fun a5=>t_  a5=some r) (fun a5 b6=>[(5,u3)]) (fun a5 b6=>[Ar bY u3 a5]) ?_ ?_
 ·refine sqR<|qkAsg rfl<|dtN<|aQ<|loopL (iC fuel p0 p1) (fun a10 b11=>[(1,vI (p1)),(2,vP b1),(5,u3),(6,vI (a10.1))]) (fun a10 b11=>[Ar bY u3 a10.2,bO b1 [v0,v1,v2,vI (p0.2.2.2.1),vI (p0.2.2.2.2.1),vI (p0.2.2.2.2.2.1),vI (p0.2.2.2.2.2.2.1),vU (p0.2.2.2.2.2.2.2)] 44]) ((0:Int),(List.replicate (Int.toNat p1) (0:Int))) () h SF (aK.refl _) ?_
  clear h
  intro k12 a10 b11 h
  unfold iC at h
  refine aL<|sqR<|qkMove rfl<|qkFld rfl<|qkLd 1 rfl<|aB (b_ rfl (aC.fact 0 rfl) rfl) rfl<|qkLss rfl<|dtN ?_
  refine eL h rfl (fun h=>?_) fun h=>?_
  ·refine iV<|aL<|midU (fun a15=>uA a10 (bG (iC fuel p0 p1) k12) a15=some r) (fun a15 b16=>[(1,vI (p1)),(2,vP b1),(5,u3),(6,vI (a10.1))]) (fun a15 b16=>[Ar bY u3 a15,bO b1 [v0,v1,v2,vI (p0.2.2.2.1),vI (p0.2.2.2.2.1),vI (p0.2.2.2.2.2.1),vI (p0.2.2.2.2.2.2.1),vU (p0.2.2.2.2.2.2.2)] 44]) ?_ ?_
   ·refine aQ<|sqR<|qkAsg rfl<|dtN<|aQ<|loopL (lH fuel p0 p1 a10 (bG (iC fuel p0 p1) k12)) (fun a20 b21=>[(1,vI (p1)),(2,vP b1),(5,u3),(6,vI (a10.1)),(7,vI (a20.1))]) (fun a20 b21=>[Ar bY u3 a20.2,bO b1 [v0,v1,v2,vI (p0.2.2.2.1),vI (p0.2.2.2.2.1),vI (p0.2.2.2.2.2.1),vI (p0.2.2.2.2.2.2.1),vU (p0.2.2.2.2.2.2.2)] 44]) ((0:Int),a10.2) () h SF (aK.refl _) ?_
    clear h
    intro k22 a20 b21 h
    unfold lH at h
    refine aL<|sqR<|qkMove rfl<|qkMove rfl<|qkLss rfl<|dtN ?_
    refine eL h rfl (fun h=>?_) fun h=>?_
    ·refine iV<|aL<|midU (fun a25=>qH a20 (bG (lH fuel p0 p1 a10 (bG (iC fuel p0 p1) k12)) k22) a25=some r) (fun a25 b26=>[(1,vI (p1)),(2,vP b1),(5,u3),(6,vI (a10.1)),(7,vI (a20.1))]) (fun a25 b26=>[Ar bY u3 a25,bO b1 [v0,v1,v2,vI (p0.2.2.2.1),vI (p0.2.2.2.2.1),vI (p0.2.2.2.2.2.1),vI (p0.2.2.2.2.2.2.1),vU (p0.2.2.2.2.2.2.2)] 44]) ?_ ?_
     ·refine aQ<|sqR<|qkFld rfl<|qkLd 1 rfl<|qkMove rfl ?_
      have⟨j27,h⟩:=aH h
      refine aB (a_ rfl rfl (aC.fact 0 rfl) rfl rfl j27) rfl<|aB (bS rfl (aC.fact 0 rfl) rfl rfl rfl Cc j27) rfl<|qkMove rfl ?_
      have⟨r28,w29,h⟩:=fE h
      refine aG (aM.callQ Iu (x_ fuel  r28 w29) rfl .nil) rfl fun x30=>dtN ?_
      refine zJ h rfl (fun _ h=>?_) fun _ h=>?_
      ·refine aO<|qkMove rfl<|qkMove rfl ?_
       have⟨j32,h⟩:=aH h
       refine aB (a_ rfl rfl (aU (aC.res 0 rfl) cI) rfl rfl j32) rfl<|aB (bS rfl (aU (aC.res 0 rfl) cI) rfl rfl rfl dB j32) rfl<|qkAdd rfl ?_
       have⟨j33,h⟩:=aH h
       refine aB (a_ rfl rfl (aU (aC.res 0 rfl) cI) rfl rfl j33) rfl<|tQ 0 (wI .i64 ((at' a20.2 a20.1)+(1:Int))) j33 rfl rfl rfl rfl rfl rfl rfl<|dY<|inT ?_
       exact iJ (List.set a20.2 (Int.toNat a20.1) (wI .i64 ((at' a20.2 a20.1)+(1:Int)))) () h SF rfl
      refine cU<|inT ?_
      exact iJ (a20.2) () h SF rfl
     clear h
     intro a25 b26 h
     unfold qH at h
     refine aO<|qkMove rfl<|qkAdd rfl<|qkAsg rfl<|dtN ?_
     exact xK ((wI .i64 (a20.1+(1:Int))),a25) () h SF rfl
    refine nO<|cX<|cX<|tA<|inT ?_
    exact iJ (a20.2) () h SF rfl
   clear h
   intro a15 b16 h
   unfold uA at h
   refine aO<|qkMove rfl<|qkAdd rfl<|qkAsg rfl<|dtN ?_
   exact xK ((wI .i64 (a10.1+(1:Int))),a15) () h SF rfl
  refine xO ?_
  exact cF (a10.2) () h SF (aK.ix [0] rfl rfl) (aA.refl _ _)
 clear h
 intro a5 b6 h
 unfold t_ at h
 refine sqR<|qkMove rfl<|qkAsg rfl<|dtN<|aS ?_
 cases h
 exact fQ (u3) rfl rfl (RV.tmp rfl) (aK.refl _) aA.nil
end Go.Proofs.YtigggfnchamobaaGreatDoor
end
section
namespace Go.Proofs.YtigggfnchamobaaGreatDoor
open Go.Sx
def sO  (a3:List (Int)):Option (List (Int)):=
 some (a3)
def pL (a9:List (Int)×Int) (ag8:(List (Int)×Int)->Option (List (Int))) (a15:List (Int)):Option (List (Int)):=
 ag8 (a15,(wI .i64 (a9.2+(1:Int))))
def kF (p0:List (Int)) (p1:Int) (a9:List (Int)×Int) (ag8:(List (Int)×Int)->Option (List (Int))):Option (List (Int)):=
 if a9.2<p1 then(if(List.length p0:Int)=(0:Int)then(ck ((List.length a9.1:Int)+(List.length ([(4294967295:Int)]):Int)<=1099511627) (pL a9 ag8 (a9.1++([(4294967295:Int)]))))else(ck ((List.length p0:Int)≠0) (ck (0<=(Int.tmod a9.2 (List.length p0:Int))∧(Int.tmod a9.2 (List.length p0:Int))<(List.length p0:Int)) (ck ((List.length p0:Int)≠0) (ck ((24:Int)≠0) (ck (0<=(wI .u64 (Int.tmod (wI .i64 (Int.tdiv a9.2 (List.length p0:Int))) (24:Int)))) (ck (0<=(wI .u64 ((24:Int) - (wI .u64 (Int.tmod (wI .i64 (Int.tdiv a9.2 (List.length p0:Int))) (24:Int)))))) (ck ((List.length a9.1:Int)+(List.length ([(c_ .u32 (Fy .u32 (wJ .u32 (c_ .u32 (at' p0 (Int.tmod a9.2 (List.length p0:Int))) (16777215:Int)) (wI .u64 (Int.tmod (wI .i64 (Int.tdiv a9.2 (List.length p0:Int))) (24:Int)))) (oZ .u32 (c_ .u32 (at' p0 (Int.tmod a9.2 (List.length p0:Int))) (16777215:Int)) (wI .u64 ((24:Int) - (wI .u64 (Int.tmod (wI .i64 (Int.tdiv a9.2 (List.length p0:Int))) (24:Int))))))) (16777215:Int))]):Int)<=1099511627) (pL a9 ag8 (a9.1++([(c_ .u32 (Fy .u32 (wJ .u32 (c_ .u32 (at' p0 (Int.tmod a9.2 (List.length p0:Int))) (16777215:Int)) (wI .u64 (Int.tmod (wI .i64 (Int.tdiv a9.2 (List.length p0:Int))) (24:Int)))) (oZ .u32 (c_ .u32 (at' p0 (Int.tmod a9.2 (List.length p0:Int))) (16777215:Int)) (wI .u64 ((24:Int) - (wI .u64 (Int.tmod (wI .i64 (Int.tdiv a9.2 (List.length p0:Int))) (24:Int))))))) (16777215:Int))])))))))))))else(sO  (a9.1))
def qN (fuel:Nat) (p0:List (Int)) (p1:Int):Option (List (Int)):=
 bG (kF p0 p1) fuel (([]:List Int),(0:Int))
theorem FB:aR Tryz.prog 14:=Tryz.call14
theorem qQ (fuel:Nat) {p0:List (Int)} {p1:Int} (v0:Value) (r:List (Int)) (h:qN fuel p0 p1=some r):
  aV Tryz.prog 14 #[v0,vI (p1)] [Sl wR v0 p0] (fun x:Value=>x) (fun x l=>Ar jV x r::l) (fun _ l=>l):=by
 refine aV.of Tryz.func14 rfl Tryz.ntmps14 rfl fun c=>?_
 unfold qN at h
 refine sqR<|qkAsg rfl<|dtN<|sqR<|qkAsg rfl<|dtN<|aL<|midL (B:=Value) (fun a3=>sO  a3=some r) (fun a3 b4=>[(5,b4)]) (fun a3 b4=>[Ar jV b4 a3]) ?_ ?_
 ·refine sqR<|qkAsg rfl<|dtN<|aQ<|jJ (iW jV)<|loopL (B:=Value) (kF p0 p1) (fun a9 b10=>[(0,v0),(1,vI (p1)),(5,b10),(6,vI (a9.2))]) (fun a9 b10=>[Ar jV b10 a9.1]) (([]:List Int),(0:Int)) (Value.slice none 0 0) h SF (aK.refl _) ?_
  clear h
  intro k11 a9 b10 h
  unfold kF at h
  refine aL<|sqR<|qkMove rfl<|qkMove rfl<|qkLss rfl<|dtN ?_
  refine eL h rfl (fun h=>?_) fun h=>?_
  ·refine iV<|aL<|midL (B:=Value) (fun a15=>pL a9 (bG (kF p0 p1) k11) a15=some r) (fun a15 b16=>[(0,v0),(1,vI (p1)),(5,b16),(6,vI (a9.2))]) (fun a15 b16=>[Ar jV b16 a15]) ?_ ?_
   ·refine aQ<|aL<|sqR<|qkMove rfl<|aB (b_ rfl (aC.fact 0 rfl) rfl) rfl<|qkEql rfl<|dtN ?_
    refine eL h rfl (fun h=>?_) fun h=>?_
    ·refine sqR<|qkMove rfl<|aG (cE (e:=jV) ([(4294967295:Int)]) [(0,vU (4294967295:Int))] rfl rfl rfl rfl (mM (vU (4294967295:Int)) rfl) rfl rfl rfl) rfl fun u18=>?_
     have⟨j20,h⟩:=aH h
     refine aG (gM 1 kU rfl rfl rfl (aU (aC.res 0 rfl) kU) rfl rfl rfl rfl j20 rfl) rfl fun u19=>qkAsg rfl<|dtN<|nO<|cX<|tA<|xR ?_
     exact cF (a9.1++([(4294967295:Int)])) (u19) h SF (aK.ix [1] rfl rfl) (aA.refl _ _)
    refine iV<|aL ?_
    refine JR.start [0,0,0,4,14,31,63,0,0,256,896,1920,3968,127,16383] 14 mixedOrders (by decide +kernel) ?_
    refine JR.open (by exact rfl) ?_
    refine jkMove rfl<|jkMove rfl<|jkMove rfl<|aN rfl .nil (cV.cons (List.mem_of_getElem? (i:=0) rfl) .nil) (b_ rfl (aC.fact 0 rfl) rfl) aD.z ?_
    have⟨j21,h⟩:=aH h
    refine aN rfl .nil .nil (JO rfl rfl j21) aD.z ?_
    have⟨j22,h⟩:=aH h
    refine aN rfl .nil (cV.cons (List.mem_of_getElem? (i:=0) rfl) .nil) (a_ rfl rfl (aC.fact 0 rfl) rfl rfl j22) aD.z<|aN rfl .nil (cV.cons (List.mem_of_getElem? (i:=0) rfl) .nil) (bS rfl (aC.fact 0 rfl) rfl rfl rfl Cc j22) aD.z<|jkMove rfl<|jkMove rfl<|aN rfl .nil (cV.cons (List.mem_of_getElem? (i:=0) rfl) .nil) (b_ rfl (aC.fact 0 rfl) rfl) aD.z ?_
    have⟨j23,h⟩:=aH h
    refine aN rfl .nil .nil (PX rfl rfl j23) aD.z ?_
    have⟨j24,h⟩:=aH h
    refine aN rfl .nil .nil (JO rfl rfl j24) aD.z<|aN rfl .nil .nil (Fq rfl rfl rfl) aD.z<|aN rfl .nil .nil (tS rfl) aD.z<|bL 14 rfl rfl<|qkAsg rfl<|dtN<|sqR<|qkMove rfl<|aB (oY rfl rfl) rfl<|qkAsg rfl<|dtN<|aO<|qkMove rfl<|qkMove rfl<|qkMove rfl ?_
    have⟨j25,h⟩:=aH h
    refine aB (Ft rfl rfl j25) rfl<|qkMove rfl<|qkMove rfl<|aB (qE rfl rfl) rfl ?_
    have⟨j26,h⟩:=aH h
    refine aB (AG rfl rfl j26) rfl<|aB (Oj rfl rfl) rfl<|aB (oY rfl rfl) rfl<|aG (cE (e:=jV) ([(c_ .u32 (Fy .u32 (wJ .u32 (c_ .u32 (at' p0 (Int.tmod a9.2 (List.length p0:Int))) (16777215:Int)) (wI .u64 (Int.tmod (wI .i64 (Int.tdiv a9.2 (List.length p0:Int))) (24:Int)))) (oZ .u32 (c_ .u32 (at' p0 (Int.tmod a9.2 (List.length p0:Int))) (16777215:Int)) (wI .u64 ((24:Int) - (wI .u64 (Int.tmod (wI .i64 (Int.tdiv a9.2 (List.length p0:Int))) (24:Int))))))) (16777215:Int))]) [(0,vU (c_ .u32 (Fy .u32 (wJ .u32 (c_ .u32 (at' p0 (Int.tmod a9.2 (List.length p0:Int))) (16777215:Int)) (wI .u64 (Int.tmod (wI .i64 (Int.tdiv a9.2 (List.length p0:Int))) (24:Int)))) (oZ .u32 (c_ .u32 (at' p0 (Int.tmod a9.2 (List.length p0:Int))) (16777215:Int)) (wI .u64 ((24:Int) - (wI .u64 (Int.tmod (wI .i64 (Int.tdiv a9.2 (List.length p0:Int))) (24:Int))))))) (16777215:Int)))] rfl rfl rfl rfl (mM (vU (c_ .u32 (Fy .u32 (wJ .u32 (c_ .u32 (at' p0 (Int.tmod a9.2 (List.length p0:Int))) (16777215:Int)) (wI .u64 (Int.tmod (wI .i64 (Int.tdiv a9.2 (List.length p0:Int))) (24:Int)))) (oZ .u32 (c_ .u32 (at' p0 (Int.tmod a9.2 (List.length p0:Int))) (16777215:Int)) (wI .u64 ((24:Int) - (wI .u64 (Int.tmod (wI .i64 (Int.tdiv a9.2 (List.length p0:Int))) (24:Int))))))) (16777215:Int))) rfl) rfl rfl rfl) rfl fun u27=>?_
    have⟨j29,h⟩:=aH h
    refine aG (gM 1 kU rfl rfl rfl (aU (aC.res 0 rfl) kU) rfl rfl rfl rfl j29 rfl) rfl fun u28=>qkAsg rfl<|dY<|inT ?_
    exact cF (a9.1++([(c_ .u32 (Fy .u32 (wJ .u32 (c_ .u32 (at' p0 (Int.tmod a9.2 (List.length p0:Int))) (16777215:Int)) (wI .u64 (Int.tmod (wI .i64 (Int.tdiv a9.2 (List.length p0:Int))) (24:Int)))) (oZ .u32 (c_ .u32 (at' p0 (Int.tmod a9.2 (List.length p0:Int))) (16777215:Int)) (wI .u64 ((24:Int) - (wI .u64 (Int.tmod (wI .i64 (Int.tdiv a9.2 (List.length p0:Int))) (24:Int))))))) (16777215:Int))])) (u28) h SF (aK.ix [1] rfl rfl) (aA.refl _ _)
   clear h
   intro a15 b16 h
   unfold pL at h
   refine aO<|qkMove rfl<|qkAdd rfl<|qkAsg rfl<|dtN ?_
   exact xK (a15,(wI .i64 (a9.2+(1:Int)))) (b16) h SF rfl
  refine xO ?_
  exact iJ (a9.1) (b10) h SF rfl
 clear h
 intro a3 b4 h
 unfold sO at h
 refine sqR<|qkMove rfl<|qkAsg rfl<|dtN<|aS ?_
 cases h
 exact fQ (b4) rfl rfl (RV.tmp rfl) (aK.refl _) aA.nil
end Go.Proofs.YtigggfnchamobaaGreatDoor
end
section
namespace Go.Proofs.YtigggfnchamobaaGreatDoor
open Go Go.Sx
theorem Qe (f:Nat) {m v:Nat} (hm:m<4294967296) (hv:v<32):oE f (m:Int) (v:Int)=some (m.testBit v):=by
 unfold oE rB
 rw[if_pos (by omega),if_pos (by omega),aaK hv,dK (by omega)]
 congr 1
 rw[Bool.eq_iff_iff,decide_eq_true_eq]
 exact F_ hv hm
theorem K_ (x:Int):0<=wI .u64 x:=by
 rw[BY]
 have:IntKind.u64.wrap x=x%18446744073709551616:=rfl
 rw[this];omega
theorem Ph (l:List Int) {n:Nat} (hn:n<=900):∃ws,qN 1000 l (n:Int)=some ws∧ws.length=n∧∀k:Nat,k<ws.length->∃m:Nat,at' ws (k:Int)=(m:Int)∧m<4294967296:=by
 unfold qN
 obtain⟨⟨ws,i⟩,⟨hi,hl,hb⟩,he⟩:=AQ (step:=kF l (n:Int)) (K:=fun z=>some z.1) n
  (fun k z=>z.2=(k:Int)∧z.1.length=k∧∀j:Nat,j<k->∃m:Nat,at' z.1 (j:Int)=(m:Int)∧m<4294967296) (fun k z ag hk hI=>by
  obtain⟨ws,i⟩:=z
  obtain⟨hi,hl,hb⟩:=hI
  dsimp only at hi hl hb
  subst hi
  have snoc:∀m:Nat,m<4294967296->∀j:Nat,j<k+1->∃m':Nat,at' (ws++[(m:Int)]) (j:Int)=(m':Int)∧m'<4294967296:=fun m hm j hj=>by
   rw[Ja ws _ (by omega)]
   by_cases e:j<ws.length
   ·rw[if_pos e];exact hb j (by omega)
   ·rw[if_neg e];exact⟨m,rfl,hm⟩
  have hin:∀m:Nat,(List.length ws:Int)+(List.length [(m:Int)]:Int)<=1099511627:=fun m=>by simp;omega
  unfold kF pL
  dsimp only
  rw[if_pos (by omega),eW (by omega)]
  by_cases h0:l.length=0
  ·rw[if_pos (by omega),dK (show(List.length ws:Int)+(List.length [(4294967295:Int)]:Int)<=1099511627 from hin 4294967295)]
   exact⟨_,⟨rfl,by simp[hl],snoc 4294967295 (by omega)⟩,rfl⟩
  ·have e1:Int.tmod (k:Int) (l.length:Int)=((k%l.length:Nat):Int):=rfl
   have hlt:k%l.length<l.length:=Nat.mod_lt _ (by omega)
   rw[if_neg (by omega),dK (by omega),dK (by rw[e1];omega),dK (by omega),dK (by decide),dK (K_ _),dK (K_ _)]
   have hX:∀X:Int,∃m:Nat,c_ .u32 X (16777215:Int)=(m:Int)∧m<4294967296:=fun X=>⟨_,EJ _ _,Nat.lt_of_le_of_lt Nat.and_le_left (Ii _)⟩
   obtain⟨m,hm,hm32⟩:=hX (Fy .u32 (wJ .u32 (c_ .u32 (at' l (Int.tmod (k:Int) (l.length:Int))) (16777215:Int)) (wI .u64 (Int.tmod (wI .i64 (Int.tdiv (k:Int) (l.length:Int))) (24:Int)))) (oZ .u32 (c_ .u32 (at' l (Int.tmod (k:Int) (l.length:Int))) (16777215:Int)) (wI .u64 ((24:Int) - (wI .u64 (Int.tmod (wI .i64 (Int.tdiv (k:Int) (l.length:Int))) (24:Int)))))))
   rw[hm,dK (hin m)]
   exact⟨_,⟨rfl,by simp[hl],snoc m hm32⟩,rfl⟩) (fun z ag hI=>by
  obtain⟨ws,i⟩:=z
  obtain⟨hi,hl,hb⟩:=hI
  dsimp only at hi
  subst hi
  unfold kF sO
  dsimp only
  rw[if_neg (by omega)]) 1000 (([]:List Int),(0:Int)) ⟨rfl,rfl,fun j hj=>by omega⟩ (by omega)
 exact⟨ws,he,hl,fun k hk=>hb k (by dsimp only at hl;omega)⟩
theorem KI {α:Type} [Inhabited α] (l:List α) {k:Nat} (h:k<l.length):l.set k (at' l (k:Int))=l:=by
 have:=Cq l (k:Int) (by simpa using h) (by omega)
 simpa using this

def wK (ch:List Nat) (v:Nat):Nat:=ch.countP fun t=>t.testBit v
theorem Hs (ch:List Nat) (t v:Nat):wK (ch++[t]) v=wK ch v+if t.testBit v=true then 1 else 0:=by
 unfold wK
 rw[List.countP_append]
 cases h:t.testBit v<;>simp[h]
theorem Rs {ch:List Nat} (hch:∀t∈ch,t<4294967296) (hl:ch.length<=900) {n:Nat} (hn:n<=24) (r1:List Int) (r2:List (List Int)) (r3:CT):pP 1000 (Cn ch,r1,r2,r3) (n:Int)=some ((List.range n).map fun v=>((wK ch v:Nat):Int)):=by
 have hil:(Cn ch).length=ch.length:=by simp[Cn]
 unfold pP
 rw[dK (by omega)]
 let F:Nat->Nat->Int:=fun k v=>((wK (ch.take k) v:Nat):Int)
 let Q:Nat->List Int:=fun k=>(List.range n).map (F k)
 have hle:∀k v,wK (ch.take k) v<=900:=fun k v=>Nat.le_trans List.countP_le_length (by simp;omega)
 rw[show List.replicate (Int.toNat (n:Int)) (0:Int)=Q 0 by
  refine List.ext_getElem (by simp[Q]) fun i h1 h2=> ?_
  simp[Q,F,wK]]
 have:=dW (step:=iC 1000 (Cn ch,r1,r2,r3) (n:Int)) (K:=some (Q ch.length)) ch.length (fun k=>((k:Int),Q k)) (fun k ag hk=>by
  unfold iC
  dsimp only
  rw[if_pos (by omega)]
  have ht:at' (Cn ch) (k:Int)=((ch[k]:Nat):Int):=by rw[kA (by omega)];simp[Cn]
  have ht32:=hch ch[k] (List.getElem_mem hk)
  have htk:ch.take (k+1)=ch.take k++[ch[k]]:=by rw[BB hk,kA hk]
  let G:Nat->List Int:=fun j=>(List.range j).map (F (k+1))++(List.range' j (n - j)).map (F k)
  have hG:∀j,j<=n->(G j).length=n:=fun j hj=>by simp[G];omega
  have hGj:∀j,j<n->at' (G j) (j:Int)=F k j:=fun j hj=>by
   rw[kA (by rw[hG j (by omega)];exact hj)];simp[G]
  have hGs:∀j,j<n->(G j).set j (F (k+1) j)=G (j+1):=fun j hj=>by
   show((List.range j).map (F (k+1))++(List.range' j (n - j)).map (F k)).set j (F (k+1) j)=(List.range (j+1)).map (F (k+1))++(List.range' (j+1) (n - (j+1))).map (F k)
   rw[List.set_append_right _ _ (by simp),List.length_map,List.length_range,Nat.sub_self,show n - j=(n - (j+1))+1 by omega,List.range'_succ,List.map_cons,List.set_cons_zero,List.range_succ,List.map_append,List.map_singleton,List.append_assoc]
   rfl
  rw[show Q k=G 0 by simp[Q,G,List.range_eq_range']]
  refine Eq.trans (dW (step:=lH 1000 (Cn ch,r1,r2,r3) (n:Int) ((k:Int),G 0) ag) (K:=ag (((k+1:Nat):Int),Q (k+1))) n (fun j=>((j:Int),G j)) (fun j ag2 hj=> ?_) (fun ag2=> ?_) 1000 (by omega)) rfl
  ·have hs:=Hs (ch.take k) ch[k] j
   rw[<-htk]at hs
   have:=hle k j
   unfold lH qH
   dsimp only
   rw[if_pos (by omega),dK (by omega),ht,bH (Qe 1000 ht32 (by omega)),eW (by omega)]
   by_cases hb:ch[k].testBit j=true
   ·rw[if_pos hb,dK (by rw[hG j (by omega)];omega),dK (by rw[hG j (by omega)];omega),hGj j hj,Int.toNat_natCast,eW (by omega)]
    rw[if_pos hb]at hs
    have:(((wK (ch.take k) j+1:Nat)):Int)=F (k+1) j:=by simp only[F];rw[hs]
    rw[this,hGs j hj]
   ·rw[if_neg hb]
    rw[if_neg hb]at hs
    have e:F (k+1) j=at' (G j) (j:Int):=by rw[hGj j hj];simp only[F];rw[hs];rfl
    rw[<-hGs j hj,e,KI (G j) (by rw[hG j (by omega)];exact hj)]
  ·unfold lH uA
   dsimp only
   rw[if_neg (by omega),eW (by omega)]
   simp[G,Q]) (fun ag=>by
  unfold iC t_
  dsimp only
  rw[if_neg (by omega)]) 1000 (by omega)
 refine Eq.trans this ?_
 simp[Q,F]
def Po (f:Nat->Nat):Nat->Nat
 |0=>0
 |n+1=>Po f n+f n
theorem Xb {f:Nat->Nat}:∀{n:Nat},(∀v,v<n->f v<=1)->Po f n<=n
 |0,_=>Nat.le_refl 0
 |n+1,h=>by
  have:=Xb (n:=n) fun v hv=>h v (by omega)
  have:=h n (by omega)
  simp only[Po];omega
theorem NN {f:Nat->Nat} {b:Nat}:∀{n:Nat},(∀v,v<n->f v<=b)->Po f n<=b*n
 |0,_=>Nat.zero_le _
 |n+1,h=>by
  have:=NN (n:=n) fun v hv=>h v (by omega)
  have:=h n (by omega)
  simp only[Po,Nat.mul_succ];omega
theorem KO {f h:Nat->Nat}:∀{n:Nat},(∀v,v<n->f v<=h v)->Po f n<=Po h n
 |0,_=>Nat.le_refl 0
 |n+1,k=>by
  have:=KO (n:=n) fun v hv=>k v (by omega)
  have:=k n (by omega)
  simp only[Po];omega
theorem Sd {f h:Nat->Nat}:∀{n:Nat} {u:Nat},(∀v,v<n->f v<=h v)->u<n->f u<h u->Po f n<Po h n
 |0,u,_,hu,_=>absurd hu (Nat.not_lt_zero u)
 | n + 1, u, k, hu, hl => by
  simp only[Po]
  by_cases e:u=n
  ·subst e
   have:=KO (n:=u) fun v hv=>k v (by omega)
   omega
  ·have:=Sd (n:=n) (u:=u) (fun v hv=>k v (by omega)) (by omega) hl
   have:=k n (by omega)
   omega
theorem Qy {d:Nat} (hd:d<4294967296):∃lv:Nat,Tj .u32 4294967295 (d:Int)=(lv:Int)∧lv<4294967296∧∀i,i<32->lv.testBit i = !d.testBit i:=by
 refine⟨(BitVec.ofInt 32 4294967295 ^^^ BitVec.ofInt 32 (d:Int)).toNat,HZ _ (BitVec.isLt _),BitVec.isLt _,fun i hi=> ?_⟩
 have h1:(BitVec.ofInt 32 4294967295 ^^^ BitVec.ofInt 32 (d:Int)).toNat=MJ 4294967295 ^^^ MJ (d:Int):=BitVec.toNat_xor ..
 rw[h1,sB hd,show MJ 4294967295=2^32 - 1 from sB (a:=4294967295) (by omega),Nat.testBit_xor,Nat.testBit_two_pow_sub_one,decide_eq_true hi]
 simp
def Dz (c:List (List Int)) (v:Nat):Int:=at' (at' c (v:Int)) 0
def Mf (g:GR) (c:List (List Int)) (v i:Nat):Int:=at' (at' c (iO (row g v) i).1) 0
theorem Bu {g:GR} {c:List (List Int)} {v i u:Nat} (h:(iO (row g v) i).1=(u:Int)):Mf g c v i=Dz c u:=by unfold Mf Dz;rw[h]
end Go.Proofs.YtigggfnchamobaaGreatDoor
end
section
namespace Go.Proofs.YtigggfnchamobaaGreatDoor
open Go Go.Sx
def YP:E:= .bi 41 (.lf 5 0) (.ag 21 (.lf 12 0))
def YO:E:= .bi 41 (.un 19 (.lf 5 0)) (.un 19 (.ag 21 (.lf 12 0)))
def RM:List RL:=[(YP,[(0,.lf 3 0)]),(YO,[(0,.lf 2 0)])]
theorem UJ:w_ 1 RM=true:=by decide +kernel
theorem loM (g:GR) (v:Nat):lo g (at' pY ((0:Nat):Int)) v=0:=rfl
theorem hiM (g:GR) (v:Nat):hi g (at' pY ((0:Nat):Int)) v=1:=rfl
theorem YI {g:GR} (hV:VG g):Cd g pY:=by
 have h24:=hV.n24
 refine⟨by decide,NL,fun x hx=> ?_,fun x hx _=> ?_⟩
 ·obtain rfl:x=0:=by simp[pY]at hx;exact hx
  exact .inr (.inl rfl)
 ·obtain rfl:x=0:=by simp[pY]at hx;exact hx
  rw[loM,hiM];omega
def Lh (g:GR) (c:List (List Int)) (v:Nat):Prop:=∃i,i<(row g v).length∧Mf g c v i≠0
section
variable {p:Eu} {g:GR} {c:List (List Int)} {v:Nat}
theorem Wz:uN (dL p g) c v YP=Iq (decide (Dz c v≠0)&&decide (Iq (((List.range (row g v).length).map fun q=>Mf g c v q).any nz)≠0)):=rfl
theorem Wy:uN (dL p g) c v YO=Iq (decide (Iq (decide (Dz c v=0))≠0)&&decide (Iq (decide (Iq (((List.range (row g v).length).map fun q=>Mf g c v q).any nz)=0))≠0)):=rfl
theorem Fw (b:Bool):Iq b≠0↔b=true:=by cases b<;>simp[Iq]
theorem XP (b:Bool):Iq b=0↔b=false:=by cases b<;>simp[Iq]
theorem Qa:((List.range (row g v).length).map fun q=>Mf g c v q).any nz=true↔Lh g c v:=by
 unfold Lh
 rw[List.any_eq_true]
 constructor
 ·rintro⟨x,hx,hn⟩
  obtain⟨i,hi,rfl⟩:=List.mem_map.1 hx
  exact⟨i,List.mem_range.1 hi,by simpa [nz]using hn⟩
 ·rintro⟨i,hi,hn⟩
  exact⟨_,List.mem_map.2 ⟨i,List.mem_range.2 hi,rfl⟩,by simpa [nz]using hn⟩
theorem Tf:((List.range (row g v).length).map fun q=>Mf g c v q).any nz=false↔¬Lh g c v:=by
 rw[<-Qa];simp
theorem Nm:uN (dL p g) c v YP≠0↔Dz c v≠0∧Lh g c v:=by
 rw[Wz,Fw,Bool.and_eq_true,decide_eq_true_eq,decide_eq_true_eq,Fw,Qa]
theorem Nl:uN (dL p g) c v YO≠0↔Dz c v=0∧¬Lh g c v:=by
 rw[Wy,Fw,Bool.and_eq_true,decide_eq_true_eq,decide_eq_true_eq,Fw,Fw,decide_eq_true_eq,decide_eq_true_eq,XP,Tf]
theorem RX (h:0<=rD (dL p g) RM c v):(rD (dL p g) RM c v=0∧Dz c v≠0∧Lh g c v)∨(rD (dL p g) RM c v=1∧Dz c v=0∧¬Lh g c v):=by
 obtain⟨i,h1,h2,h3⟩:=(Gu (dL p g) RM c v).resolve_left (fun e=>by omega)
 have h2:i<2:=h2
 match i,h2 with
 |0,_=>exact .inl ⟨h1,Nm.1 h3⟩
 |1,_=>exact .inr ⟨h1,Nl.1 h3⟩
theorem Pa (h:¬0<=rD (dL p g) RM c v):Lh g c v↔Dz c v=0:=by
 have e:rD (dL p g) RM c v = -1:=by
  rcases Gu (dL p g) RM c v with e|⟨i,h1,_⟩
  ·exact e
  ·omega
 have a0:¬uN (dL p g) c v YP≠0:=fun q=>q (Gv.1 e 0 (by decide))
 have a1:¬uN (dL p g) c v YO≠0:=fun q=>q (Gv.1 e 1 (by decide))
 rw[Nm]at a0
 rw[Nl]at a1
 by_cases hn:Lh g c v
 ·exact iff_of_true hn (Decidable.not_not.1 fun q=>a0 ⟨q,hn⟩)
 ·exact iff_of_false hn (fun q=>a1 ⟨q,hn⟩)
theorem Yr (hr:(at' c (v:Int)).length=1):at' (Aj (dL p g) pY RM c v 0) 0=0:=by
 have e:Aj (dL p g) pY RM c v 0=(at' c (v:Int)).set 0 0:=rfl
 rw[e]
 have:=AI (at' c (v:Int)) 0 0 (0:Int) (by omega)
 rw[if_pos rfl]at this
 exact this
theorem Ys (hr:(at' c (v:Int)).length=1):at' (Aj (dL p g) pY RM c v 1) 0=1:=by
 have e:Aj (dL p g) pY RM c v 1=(at' c (v:Int)).set 0 1:=rfl
 rw[e]
 have:=AI (at' c (v:Int)) 0 0 (1:Int) (by omega)
 rw[if_pos rfl]at this
 exact this
end
structure Pw (g:GR) (lv:Nat) (c0:List (List Int)) (k:Nat) (c:List (List Int)) (ch:List Nat):Prop where
 r:UZ g c pY
 st:∀v,v<g.2.length->(wK ch v=0∧Dz c v=Dz c0 v)∨(lv.testBit v=true∧((wK ch v=1∧Dz c v=0)∨(wK ch v<=2∧Dz c v≠0∧¬Lh g c v)))
 sum:k<=Po (wK ch) g.2.length
 sets:∀t∈ch,t<4294967296
theorem Pw.two {g:GR} {lv k:Nat} {c0 c:List (List Int)} {ch:List Nat} (h:Pw g lv c0 k c ch) {v:Nat} (hv:v<g.2.length):wK ch v<=2:=by
 rcases h.st v hv with a|⟨_,a|a⟩
 ·omega
 ·omega
 ·exact a.1
theorem YB {p:Eu} {g:GR} (hV:VG g) {lv k t:Nat} {c0 c:List (List Int)} {ch:List Nat} (hI:Pw g lv c0 k c ch) (ht0:t≠0) (hsub:∀i,t.testBit i=true->(BG (dL p g) RM lv c).testBit i=true) (hind:∀v u,t.testBit v=true->t.testBit u=true->¬Ia g v u):Pw g lv c0 (k+1) (qO (dL p g) pY RM c t) (ch++[t]):=by
 have hcl:=hI.r.len
 have hin:∀v,t.testBit v=true->v<g.2.length∧0<=rD (dL p g) RM c v∧lv.testBit v=true:=fun v hv=>(EL (dL p g) RM lv c v).1 (hsub v hv)
 have hcnt:∀v,wK (ch++[t]) v=wK ch v+if t.testBit v=true then 1 else 0:=Hs ch t
 have hrow:∀v,v<g.2.length->(at' c (v:Int)).length=1:=fun v hv=>hI.r.row v hv
 have hat:∀v,v<g.2.length->at' (qO (dL p g) pY RM c t) (v:Int)=if t.testBit v=true then Aj (dL p g) pY RM c v (rD (dL p g) RM c v)else at' c (v:Int):=fun v hv=>KJ (by rw[hcl];exact hv)
 have hcol1:∀v,t.testBit v=true->(Dz c v≠0∧Lh g c v∧Dz (qO (dL p g) pY RM c t) v=0)∨(Dz c v=0∧¬Lh g c v∧Dz (qO (dL p g) pY RM c t) v=1):=fun v hv=>by
  obtain⟨h1,h2,_⟩:=hin v hv
  unfold Dz
  rw[hat v h1,if_pos hv]
  rcases RX h2 with⟨e,a,b⟩|⟨e,a,b⟩
  ·rw[e];exact .inl ⟨a,b,Yr (hrow v h1)⟩
  ·rw[e];exact .inr ⟨a,b,Ys (hrow v h1)⟩
 have hcol0:∀v,v<g.2.length->t.testBit v=false->Dz (qO (dL p g) pY RM c t) v=Dz c v:=fun v hv hb=>by
  unfold Dz
  rw[hat v hv,if_neg (by rw[hb];decide)]
 have ht32:t<4294967296:=by have:=Pv.lt hV (fun i hi=>(hin i hi).1);omega
 -- neighbours of a node without members around it stay out
 have hout:∀v,v<g.2.length->¬Lh g c v->(∀u,Ia g v u->t.testBit u=false)->¬Lh g (qO (dL p g) pY RM c t) v:=fun v hv hn hq=>by
  rintro⟨i,hi,he⟩
  obtain⟨u,hu,hue,hadj⟩:=hV.port hv hi
  rw[Bu hue,hcol0 u hu (hq u hadj)]at he
  exact hn ⟨i,hi,by rw[Bu hue];exact he⟩
 refine⟨⟨by rw[HQ,hcl],fun v hv=> ?_,fun v hv x hx=> ?_⟩,fun v hv=> ?_,?_,fun s hs=> ?_⟩
 ·rw[hat v hv]
  split
  ·rw[HJ];exact hrow v hv
  ·exact hrow v hv
 ·obtain rfl:x=0:=by simp[pY]at hx;exact hx
  rw[loM,hiM]
  show 0<=Dz (qO (dL p g) pY RM c t) v∧Dz (qO (dL p g) pY RM c t) v<=_
  cases hb:t.testBit v with
  |true=>rcases hcol1 v hb with⟨_,_,e⟩|⟨_,_,e⟩<;>rw[e]<;>omega
  |false=>
   have:=hI.r.ok v hv 0 (by decide)
   rw[loM,hiM]at this
   rw[hcol0 v hv hb];exact this
 ·rw[hcnt]
  cases hb:t.testBit v with
  | true =>
   obtain⟨_,_,hl⟩:=hin v hb
   rw[if_pos rfl]
   rcases hcol1 v hb with⟨a,b,e⟩|⟨a,b,e⟩
   ·rcases hI.st v hv with q|⟨_,q|q⟩
    ·exact .inr ⟨hl,.inl ⟨by omega,e⟩⟩
    ·exact absurd q.2 a
    ·exact absurd b q.2.2
   ·have hno:¬Lh g (qO (dL p g) pY RM c t) v:=hout v hv b fun u hadj=>by
     cases hq:t.testBit u with
     |false=>rfl
     |true=>exact absurd hadj (hind v u hb hq)
    have h2:wK ch v+1<=2:=by
     rcases hI.st v hv with q|⟨_,q|q⟩
     ·omega
     ·omega
     ·exact absurd a q.2.1
    exact .inr ⟨hl,.inr ⟨h2,by rw[e];decide,hno⟩⟩
  | false =>
   rw[if_neg (by decide),Nat.add_zero,hcol0 v hv hb]
   rcases hI.st v hv with q|⟨hl,q|q⟩
   ·exact .inl q
   ·exact .inr ⟨hl,.inl q⟩
   ·refine .inr ⟨hl,.inr ⟨q.1,q.2.1,hout v hv q.2.2 fun u hadj=> ?_⟩⟩
    cases hub:t.testBit u with
    |false=>rfl
    | true =>
     obtain⟨j,hj,hjv⟩:=hV.back hv hadj
     have hnu:Lh g c u:=⟨j,hj,by rw[Bu hjv];exact q.2.1⟩
     rcases hcol1 u hub with⟨a,b,_⟩|⟨a,b,_⟩
     ·obtain⟨i,hi,hiu⟩:=hadj
      exact absurd ⟨i,hi,by rw[Bu hiu];exact a⟩ q.2.2
     ·exact absurd hnu b
 ·obtain⟨u,hu⟩:=Gi ht0
  have hun:=(hin u hu.bit).1
  have:=Sd (f:=wK ch) (h:=wK (ch++[t])) (n:=g.2.length) (u:=u) (fun v _=>by rw[hcnt];omega) hun (by rw[hcnt,if_pos hu.bit];omega)
  have:=hI.sum
  omega
 ·rcases List.mem_append.1 hs with h|h
  ·exact hI.sets s h
  ·rw[List.mem_singleton.1 h];exact ht32
end Go.Proofs.YtigggfnchamobaaGreatDoor
end
section
namespace Go.Proofs.YtigggfnchamobaaGreatDoor
open Go.Sx
def qI (fuel:Nat) (p0:ByteArray×(List (ByteArray×Int×Int×Int×Int×Int))×(List (ByteArray×(Value×List (Int×Int))×(Value×List (Int×(Value×List (Int×Int))))))) (p1:List (Int)×(List (List (Int×Int)))) (p2:Int) (p3:List (List (Int))) (p4:Int) (p5:List (Int)):Option ((List (Int)×List (Int)×List (List (Int))×(Int×Int×Int×Int×Int))×Int):=
 Option.bind (jC fuel ((p0.1,p0.2.1,p0.2.2)) ((p1.1,p1.2)) p2 p3 (Tj .u32 (4294967295:Int) p4) p5) fun r4=>(some (((r4.1.1,r4.1.2.1,r4.1.2.2.1,((r4.1.2.2.2.1,r4.1.2.2.2.2.1,r4.1.2.2.2.2.2.1,r4.1.2.2.2.2.2.2.1,r4.1.2.2.2.2.2.2.2)))),r4.2))
theorem FA:aR Tryz.prog 13:=Tryz.call13
theorem qP (fuel:Nat) {p0:ByteArray×(List (ByteArray×Int×Int×Int×Int×Int))×(List (ByteArray×(Value×List (Int×Int))×(Value×List (Int×(Value×List (Int×Int))))))} {p1:List (Int)×(List (List (Int×Int)))} {p2:Int} {p3:List (List (Int))} {p4:Int} {p5:List (Int)} (v0:Value)  (v1:Value)  (v2:Value)  (v3:Value)  (z4:List (Value×List (Int×Int)))  (v5:Value)  (z6:List (Value×List (Int)))  (v7:Value) (r:(List (Int)×List (Int)×List (List (Int))×(Int×Int×Int×Int×Int))×Int) (h:qI fuel p0 p1 p2 p3 p4 p5=some r):
  aV Tryz.prog 13 #[Value.agg #[Value.string (p0.1),v0,v1],Value.agg #[v2,v3],vI (p2),v5,vU (p4),v7] [Sl aP v0 p0.2.1,Sl aI v1 p0.2.2,PF (Value.agg #[Value.string p0.1,v0,v1]),Sl bM v2 p1.1,S2 aZ v3 z4 p1.2,S2 bM v5 z6 p3,Sl wR v7 p5,Gb 0 (cellsOf Fb vT)] (fun x:Value×Value×Value×List Value=>Value.tuple #[Value.agg #[x.1,x.2.1,x.2.2.1,vI (r.1.2.2.2.1),vI (r.1.2.2.2.2.1),vI (r.1.2.2.2.2.2.1),vI (r.1.2.2.2.2.2.2.1),vU (r.1.2.2.2.2.2.2.2)],vI (r.2)]) (fun x l=>Ar jV x.1 r.1.1::Ar jV x.2.1 r.1.2.1::Ar dJ.raw x.2.2.1 x.2.2.2::jG bY x.2.2.2 r.1.2.2.1::l) (fun _ l=>l):=by
 refine aV.of Tryz.func13 rfl Tryz.ntmps13 rfl fun c=>?_
 unfold qI at h
 refine sqR<|aG (aM.box (cs:=[Value.string (p0.1),v0,v1]) rfl rfl) rfl fun b1=>aG (aM.box (cs:=[v2,v3]) rfl rfl) rfl fun b2=>aG (aM.alloc (cs:=[Value.slice none 0 0,Value.slice none 0 0,Value.slice none 0 0,vI (0:Int),vI (0:Int),vI (0:Int),vI (0:Int),vU (0:Int)]) rfl rfl) rfl fun b3=>qkAsg rfl<|dtN<|sqR<|qkLdA 2 rfl<|qkLdA 1 rfl<|qkMove rfl<|qkMove rfl<|qkMove rfl<|aB (SY rfl rfl) rfl<|qkMove rfl ?_
 have⟨r4,w5,h⟩:=fE h
 refine aG (aM.callQ VS (Ct fuel v0 v1 v2 v3 z4 v5 z6 v7 r4 w5) rfl (aA.cons (aC.fact 0 rfl) (aA.cons (aC.fact 1 rfl) (aA.cons (aC.fact 2 rfl) (aA.cons (aC.fact 3 rfl) (aA.cons (aC.fact 4 rfl) (aA.cons (aC.fact 5 rfl) (aA.cons (aC.fact 6 rfl) (aA.cons (aC.fact 7 rfl) .nil))))))))) rfl fun x6=>aB (bF rfl rfl) rfl<|aB (bF rfl rfl) rfl<|bZ (Know.one ((aU (aC.res 0 rfl) kU))) fun ho7=>bZ (Know.one ((aU (aC.res 1 rfl) kU))) fun ho8=>bZ (Know.one (aC.sl (bD (i:=2) (j:=3) rfl rfl cI))) fun ho9=>bI 4 (vs:=[x6.1,x6.2.1,x6.2.2.1,vI (r4.1.2.2.2.1),vI (r4.1.2.2.2.2.1),vI (r4.1.2.2.2.2.2.1),vI (r4.1.2.2.2.2.2.2.1),vU (r4.1.2.2.2.2.2.2.2)]) rfl rfl (cR ho7 (cR ho8 (cR ho9 (cR rfl (cR rfl (cR rfl (cR rfl (cR rfl rfl)))))))) rfl rfl rfl<|qkAsg rfl<|dtN<|aS ?_
 cases h
 exact jF (x6.1,x6.2.1,x6.2.2.1,x6.2.2.2) rfl rfl (RV.cell 4 rfl rfl rfl rfl) (RV.tmp rfl) (aK.ix [0,1,2,3] rfl rfl) aA.nil
end Go.Proofs.YtigggfnchamobaaGreatDoor
end
section
namespace Go.Proofs.YtigggfnchamobaaGreatDoor
open Go Go.Sx Go.Gx
set_option maxRecDepth 100000
def yF (fuel:Nat):Option (Bool):=some (true)
theorem Qf:aR Tryz.prog 16:=Tryz.call16
theorem Qw:okT (FI DX gp2 4000 16 [] H0)=true:=by kernel_rfl
theorem G_ (fuel:Nat) (r:Bool) (h:yF fuel=some r):
  aV Tryz.prog 16 #[] [Gb 0 (cellsOf Fb vT)] (fun x:Unit=>Value.bool (r)) (fun x l=>l) (fun _ l=>l):=by
 obtain rfl:=Option.some.inj h
 obtain⟨H',h1⟩:=RB Qw
 rw[CN Dc]at h1
 exact IM QV Qf (fun ρ V' h=>h.bool_inv) fun T b=>CM (gs:=gl T) aay h1 (eK.start b rfl) .nil
end Go.Proofs.YtigggfnchamobaaGreatDoor
end
section
namespace Go.Proofs.YtigggfnchamobaaGreatDoor
open Go.Sx
def oS (fuel:Nat)  : Option (ByteArray):=
 some (ByteArray.mk #[112,114,111,103,114,97,109,32,105,110,100,101,112,101,110,100,101,110,116,59,10,118,97,114,32,109,32,58,32,98,111,111,108,59,10,114,117,108,101,32,108,101,97,118,101,58,32,109,32,38,38,32,115,111,109,101,40,113,46,109,41,32,45,62,32,109,32,58,61,32,102,97,108,115,101,59,10,114,117,108,101,32,101,110,116,101,114,58,32,33,109,32,38,38,32,33,115,111,109,101,40,113,46,109,41,32,45,62,32,109,32,58,61,32,116,114,117,101,59,10])
theorem FC:aR Tryz.prog 24:=Tryz.call24
theorem lQ (fuel:Nat)  (r:ByteArray) (h:oS fuel  = some r):
  aV Tryz.prog 24 #[] [] (fun x:Unit=>Value.string (r)) (fun x l=>l) (fun _ l=>l):=by
 refine aV.of Tryz.func24 rfl Tryz.ntmps24 rfl fun c=>?_
 unfold oS at h
 refine sqR<|qkAsg rfl<|dtN<|sqR<|qkAsg rfl<|dtN<|aS ?_
 cases h
 exact lP rfl
end Go.Proofs.YtigggfnchamobaaGreatDoor
end
section
namespace Go.Proofs.YtigggfnchamobaaGreatDoor
open Go.Sx
noncomputable def iU  (a40:Bool):Option (Bool):=
 some (a40)
noncomputable def l_ (fuel:Nat) (p2:Int) (r2:(List (Int)×(List (List (Int×Int))))) (a28:Int×Int×Int×Int×Int×Int×List (Int)×List (Int)×List (List (Int))) (a37:Unit):Option (Bool):=
 Option.bind (yF fuel) fun r42=>(if r42=true then(Option.bind (f_ fuel ((r2.1,r2.2)) a28.2.2.2.2.2.2.2.2 p2) fun r46=>(iU  (r46)))else(iU  (false)))
noncomputable def cL (a51:Int) (ag50:(Int)->Option (Bool)) (a56:Bool):Option (Bool):=
 if a56=true then(some (false))else(ag50 (wI .i64 (a51+(1:Int))))
noncomputable def e_ (fuel:Nat) (p2:Int) (r2:(List (Int)×(List (List (Int×Int))))) (r11:List (List (Int))) (a28:Int×Int×Int×Int×Int×Int×List (Int)×List (Int)×List (List (Int))) (r34:List (Int)) (a51:Int) (ag50:(Int)->Option (Bool)):Option (Bool):=
 if a51<(List.length r2.2:Int)then(ck (0<=a51∧a51<(List.length r34:Int)) (if(2:Int)<(at' r34 a51)then(cL a51 ag50 (true))else(ck (0<=a51∧a51<(List.length r34:Int)) (if(0:Int)<(at' r34 a51)then(Option.bind (oE fuel p2 a51) fun r63=>(if r63=true then(cL a51 ag50 (true))else(Option.bind (oE fuel p2 a51) fun r67=>(if r67=true then(ck (0<=a51∧a51<(List.length a28.2.2.2.2.2.2.2.2:Int)) (if(List.length (at' a28.2.2.2.2.2.2.2.2 a51):Int)≠(1:Int)then(cL a51 ag50 (true))else(ck (0<=a51∧a51<(List.length a28.2.2.2.2.2.2.2.2:Int)) (ck (0<=(0:Int)∧(0:Int)<(List.length (at' a28.2.2.2.2.2.2.2.2 a51):Int)) (ck (0<=a51∧a51<(List.length r11:Int)) (ck (0<=(0:Int)∧(0:Int)<(List.length (at' r11 a51):Int)) (cL a51 ag50 (decide ((at' (at' a28.2.2.2.2.2.2.2.2 a51) (0:Int))≠(at' (at' r11 a51) (0:Int)))))))))))else(cL a51 ag50 (false))))))else(Option.bind (oE fuel p2 a51) fun r85=>(if r85=true then(ck (0<=a51∧a51<(List.length a28.2.2.2.2.2.2.2.2:Int)) (if(List.length (at' a28.2.2.2.2.2.2.2.2 a51):Int)≠(1:Int)then(cL a51 ag50 (true))else(ck (0<=a51∧a51<(List.length a28.2.2.2.2.2.2.2.2:Int)) (ck (0<=(0:Int)∧(0:Int)<(List.length (at' a28.2.2.2.2.2.2.2.2 a51):Int)) (ck (0<=a51∧a51<(List.length r11:Int)) (ck (0<=(0:Int)∧(0:Int)<(List.length (at' r11 a51):Int)) (cL a51 ag50 (decide ((at' (at' a28.2.2.2.2.2.2.2.2 a51) (0:Int))≠(at' (at' r11 a51) (0:Int)))))))))))else(cL a51 ag50 (false))))))))else(l_ fuel p2 r2 a28 (()))
noncomputable def iS (fuel:Nat) (p2:Int) (r2:(List (Int)×(List (List (Int×Int))))) (r11:List (List (Int))) (a28:Int×Int×Int×Int×Int×Int×List (Int)×List (Int)×List (List (Int))) (a31:Bool):Option (Bool):=
 if a31=true then(some (false))else(Option.bind (pP fuel ((a28.2.2.2.2.2.2.1,a28.2.2.2.2.2.2.2.1,a28.2.2.2.2.2.2.2.2,((a28.2.1,a28.2.2.1,a28.2.2.2.1,a28.2.2.2.2.1,a28.2.2.2.2.2.1)))) (List.length r2.2:Int)) fun r34=>(bG (e_ fuel p2 r2 r11 a28 r34) fuel (0:Int)))
noncomputable def lZ (fuel:Nat) (p2:Int) (r2:(List (Int)×(List (List (Int×Int))))) (r11:List (List (Int))) (a28:Int×Int×Int×Int×Int×Int×List (Int)×List (Int)×List (List (Int))):Option (Bool):=
 if a28.1≠(0:Int)then(iS fuel p2 r2 r11 a28 (true))else(iS fuel p2 r2 r11 a28 (decide ((List.length a28.2.2.2.2.2.2.2.2:Int)≠(List.length r2.2:Int))))
noncomputable def mO (fuel:Nat) (p0:Int×List (Int)×List (Int)×List (Int)×Bool×Bool) (p1:List (Int)) (p2:Int) (p3:List (Int)):Option (Bool):=
 Option.bind (jY fuel ((p0.1,p0.2.1,p0.2.2.1,p0.2.2.2.1,p0.2.2.2.2.1,p0.2.2.2.2.2)) (9:Int)) fun r2=>(Option.bind (wM fuel) fun r8=>(Option.bind (lM fuel ((r2.1,r2.2)) r8 p1) fun r11=>(Option.bind (oS fuel) fun r104=>(Option.bind (pG fuel r104) fun r107=>PZ r107.2.2 fun z110=>(Option.bind (qN fuel p3 (wI .i64 ((wI .i64 ((2:Int)*(List.length r2.2:Int)))+(1:Int)))) fun r112=>(Option.bind (qI fuel ((r107.1,r107.2.1,z110)) ((r2.1,r2.2)) (2:Int) r11 p2 r112) fun r115=>(lZ fuel p2 r2 r11 (r115.2,r115.1.2.2.2.1,r115.1.2.2.2.2.1,r115.1.2.2.2.2.2.1,r115.1.2.2.2.2.2.2.1,r115.1.2.2.2.2.2.2.2,r115.1.1,r115.1.2.1,r115.1.2.2.1))))))))
theorem Ba (fuel:Nat) {p0:Int×List (Int)×List (Int)×List (Int)×Bool×Bool} {p1:List (Int)} {p2:Int} {p3:List (Int)} (v0:Value)  (v1:Value)  (v2:Value)  (v3:Value)  (v4:Value) (r:Bool) (h:mO fuel p0 p1 p2 p3=some r):
  aV Tryz.prog 6 #[Value.agg #[vI (p0.1),v0,v1,v2,Value.bool (p0.2.2.2.2.1),Value.bool (p0.2.2.2.2.2)],v3,vU (p2),v4] [Sl bM v0 p0.2.1,Sl bM v1 p0.2.2.1,Sl bM v2 p0.2.2.2.1,Sl bM v3 p1,Sl wR v4 p3,Gb 0 (cellsOf Fb vT)] (fun x:Unit=>Value.bool (r)) (fun x l=>l) (fun _ l=>l):=by
 refine aV.of Tryz.func6 rfl Tryz.ntmps6 rfl fun c=>?_
 unfold mO at h
 refine sqR<|aG (aM.box (cs:=[vI (p0.1),v0,v1,v2,Value.bool (p0.2.2.2.2.1),Value.bool (p0.2.2.2.2.2)]) rfl rfl) rfl fun b1=>qkAsg rfl<|dtN<|sqR<|qkLdA 0 rfl ?_
 have⟨r2,w3,h⟩:=fE h
 refine aG (aM.callQ VL (Dg fuel v0 v1 v2 r2 w3) rfl (aA.cons (aC.fact 0 rfl) (aA.cons (aC.fact 1 rfl) (aA.cons (aC.fact 2 rfl) .nil)))) rfl fun x4=>aG (aM.alloc (cs:=[Value.slice none 0 0,Value.slice none 0 0]) rfl rfl) rfl fun b5=>bZ (Know.one ((aU (aC.res 1 rfl) cI))) fun ho6=>bZ (Know.one (aC.sl (bD (i:=2) (j:=3) rfl rfl bJ))) fun ho7=>bI 0 (vs:=[x4.1,x4.2.1]) rfl rfl (cR ho6 (cR ho7 rfl)) rfl rfl rfl<|dtN<|sqR<|qkFld rfl<|qkLd 0 rfl<|aB (iX rfl (bD (i:=2) (j:=3) rfl rfl bJ) rfl) rfl<|qkAsg rfl<|dtN<|aL ?_
 refine JR.start [0,0,0,7,15] 3 mixedOrders (by decide +kernel) ?_
 refine JR.open (by exact rfl) ?_
 refine jkLdA 0 rfl ?_
 have⟨r8,w9,h⟩:=fE h
 refine JR.loud rfl rfl rfl (aM.callQ VP (Jc fuel  r8 w9) rfl .nil) rfl (fun x10=>(aF.h (aK.ix [1] rfl rfl) .nil aF.z)) fun x10=>aN rfl .nil .nil (dQ rfl) (aD.h .nil .nil aD.z)<|bL 3 rfl rfl ?_
 have⟨r11,w12,h⟩:=fE h
 refine aG (aM.callQ VJ (GG fuel x4.1 x4.2.1 (List.zip x4.2.2 r2.2) x10 v3 r11 w12) rfl (aA.cons (aU (aC.res 2 rfl) cI) (aA.cons (bD (i:=3) (j:=4) rfl rfl bJ) (aA.cons (aU (aC.res 0 rfl) rH) (aA.cons (aC.fact 3 rfl) .nil))))) rfl fun x13=>qkAsg rfl<|dtN<|aL<|midL (B:=Nat×Value×Value×Value×List Value) (fun a28=>lZ fuel p2 r2 r11 a28=some r) (fun a28 b29=>[(2,vU (p2)),(9,vP b5),(10,vI (List.length r2.2:Int)),(11,x13.1),(12,vP b29.1),(13,vI (a28.1))]) (fun a28 b29=>[bO b29.1 [b29.2.1,b29.2.2.1,b29.2.2.2.1,vI (a28.2.1),vI (a28.2.2.1),vI (a28.2.2.2.1),vI (a28.2.2.2.2.1),vU (a28.2.2.2.2.2.1)] 44,Ar jV b29.2.1 a28.2.2.2.2.2.2.1,Ar jV b29.2.2.1 a28.2.2.2.2.2.2.2.1,Ar dJ.raw b29.2.2.2.1 b29.2.2.2.2,jG bY b29.2.2.2.2 a28.2.2.2.2.2.2.2.2,Ar dJ.raw x13.1 x13.2,jG bY x13.2 r11,bO b5 [x4.1,x4.2.1] 28,Ar bY x4.1 r2.1,Ar dJ.raw x4.2.1 x4.2.2,jG bR x4.2.2 r2.2]) ?_ ?_
 ·have⟨r104,w105,h⟩:=fE h
  have⟨r107,w108,h⟩:=fE h
  refine Hg [0,1,0,0,0,0,0,64,192,483,1023,2047,4095,4095,0,24575,65535] 16 [[2,3,4,5,6,7,8,0,1,9,10,11,12,13,14,15,16],[2,3,4,5,6,7,8,0,1,9,14,10,11,12,13,15,16],[2,3,4,5,6,7,8,0,1,14,9,10,11,12,13,15,16],[2,3,4,5,6,7,8,0,14,1,9,10,11,12,13,15,16],[2,3,4,5,6,7,8,14,0,1,9,10,11,12,13,15,16]] mixedOrders (by decide +kernel) (by decide +kernel) ?_
  intro o ho
  simp only[List.mem_cons,List.not_mem_nil,or_false]at ho
  rcases ho with rfl|rfl|rfl|rfl|rfl
  ·refine jkLdA 3 rfl<|jkMove rfl<|jkMove rfl<|jkMove rfl<|jkMove rfl<|aN rfl .nil .nil (tU rfl rfl) aD.z<|aN rfl .nil .nil (pS rfl rfl) aD.z<|JR.loud rfl rfl rfl (aM.callQ FC (lQ fuel  r104 w105) rfl .nil) rfl (fun x123=>(aF.h .nil .nil (aF.h .nil .nil (aF.h .nil .nil (aF.h .nil .nil (aF.h .nil .nil (aF.h .nil .nil (aF.h (aK.ix [3] rfl rfl) .nil aF.z)))))))) fun x123=>JR.loud rfl rfl rfl (aM.call Ho (pI fuel r107 w108) rfl (cV.cons (List.mem_of_getElem? (i:=5) rfl) .nil) (fun _ _=>rfl) (fun _ _=>rfl)) rfl (fun⟨x124a,x124b,z110,hz125⟩=>(aF.h .nil .nil (aF.h .nil .nil (aF.h .nil .nil (aF.h .nil .nil (aF.h .nil .nil (aF.h .nil .nil (aF.h (aK.ix [3] rfl rfl) .nil aF.z)))))))) fun⟨x124a,x124b,z110,hz125⟩=>?_
   have h:=yP h z110 hz125
   have⟨r112,w113,h⟩:=fE h
   refine JR.loud rfl rfl rfl (aM.callQ FB (qQ fuel v4 r112 w113) rfl (aA.cons (aC.fact 7 rfl) .nil)) rfl (fun x126=>(aF.b rfl (aF.b rfl (aF.b rfl (aF.b rfl (aF.h .nil .nil (aF.h .nil .nil (aF.h (aK.ix [4] rfl rfl) .nil aF.z)))))))) fun x126=>?_
   have⟨r115,w116,h⟩:=fE h
   refine JR.loud rfl rfl rfl (aM.callQ FA (qP fuel x124a x124b x4.1 x4.2.1 (List.zip x4.2.2 r2.2) x13.1 (List.zip x13.2 r11) x126 r115 w116) rfl (aA.cons (aC.fact 0 rfl) (aA.cons (aC.fact 1 rfl) (aA.cons (aC.fact 2 rfl) (aA.cons (aU (aC.res 5 rfl) cI) (aA.cons (bD (i:=6) (j:=7) rfl rfl bJ) (aA.cons (bD (i:=1) (j:=2) rfl rfl cI) (aA.cons (aU (aC.res 0 rfl) kU) (aA.cons (aC.fact 8 rfl) .nil))))))))) rfl (fun x127=>(aF.b rfl (aF.b rfl (aF.b rfl (aF.b rfl (aF.b rfl (aF.b rfl (aF.b rfl aF.z)))))))) fun x127=>aN rfl .nil .nil (dQ rfl) (aD.b rfl (aD.b rfl (aD.b rfl (aD.b rfl aD.z))))<|aN rfl .nil .nil (bF rfl rfl) (aD.b rfl (aD.b rfl (aD.b rfl (aD.b rfl aD.z))))<|aN rfl .nil .nil (bF rfl rfl) (aD.b rfl (aD.b rfl (aD.b rfl (aD.b rfl aD.z))))<|JR.loud rfl rfl rfl (aM.alloc (cs:=[Value.slice none 0 0,Value.slice none 0 0,Value.slice none 0 0,vI (0:Int),vI (0:Int),vI (0:Int),vI (0:Int),vU (0:Int)]) rfl rfl) rfl (fun b128=>(aF.h .nil .nil (aF.h .nil .nil (aF.h .nil .nil (aF.h .nil .nil (aF.h .nil .nil (aF.h .nil .nil (aF.h .nil .nil (aF.h .nil .nil (aF.h .nil .nil (aF.h (aK.ix [9] rfl rfl) .nil aF.z))))))))))) fun b128=>bP (Know.one ((aU (aC.res 1 rfl) kU))) fun ho130=>bP (Know.one ((aU (aC.res 2 rfl) kU))) fun ho131=>bP (Know.one (aC.sl (bD (i:=3) (j:=4) rfl rfl cI))) fun ho132=>rR rfl rfl rfl (rS 0 (vs:=[x127.1,x127.2.1,x127.2.2.1,vI (r115.1.2.2.2.1),vI (r115.1.2.2.2.2.1),vI (r115.1.2.2.2.2.2.1),vI (r115.1.2.2.2.2.2.2.1),vU (r115.1.2.2.2.2.2.2.2)]) rfl rfl (cR ho130 (cR ho131 (cR ho132 (cR rfl (cR rfl (cR rfl (cR rfl (cR rfl rfl)))))))) rfl rfl rfl) (fun x129=>(aF.h .nil .nil (aF.b rfl (aF.b rfl (aF.b rfl (aF.b rfl (aF.b rfl (aF.b rfl (aF.b rfl (aF.b rfl (aF.b rfl aF.z))))))))))) fun x129=>bL 16 rfl rfl<|qkAsg rfl<|dtN ?_
   exact cF (r115.2,r115.1.2.2.2.1,r115.1.2.2.2.2.1,r115.1.2.2.2.2.2.1,r115.1.2.2.2.2.2.2.1,r115.1.2.2.2.2.2.2.2,r115.1.1,r115.1.2.1,r115.1.2.2.1) (b128,x127.1,x127.2.1,x127.2.2.1,x127.2.2.2) h SF (aK.ix [0,1,2,3,4,6,7,9,10,11,12] rfl rfl) (aA.cons (aC.fact 3 rfl) (aA.cons (aC.fact 4 rfl) (aA.cons (aC.fact 5 rfl) (aA.cons (aC.fact 6 rfl) (aA.cons (aC.fact 7 rfl) (aA.cons (aC.fact 8 rfl) .nil))))))
  ·refine jkLdA 3 rfl<|jkMove rfl<|jkMove rfl<|jkMove rfl<|jkMove rfl<|aN rfl .nil .nil (tU rfl rfl) aD.z<|aN rfl .nil .nil (pS rfl rfl) aD.z<|JR.loud rfl rfl rfl (aM.callQ FC (lQ fuel  r104 w105) rfl .nil) rfl (fun x133=>(aF.h .nil .nil (aF.h .nil .nil (aF.h .nil .nil (aF.h .nil .nil (aF.h .nil .nil (aF.h .nil .nil (aF.h (aK.ix [3] rfl rfl) .nil aF.z)))))))) fun x133=>JR.loud rfl rfl rfl (aM.call Ho (pI fuel r107 w108) rfl (cV.cons (List.mem_of_getElem? (i:=5) rfl) .nil) (fun _ _=>rfl) (fun _ _=>rfl)) rfl (fun⟨x134a,x134b,z110,hz135⟩=>(aF.h .nil .nil (aF.h .nil .nil (aF.h .nil .nil (aF.h .nil .nil (aF.h .nil .nil (aF.h .nil .nil (aF.h (aK.ix [3] rfl rfl) .nil aF.z)))))))) fun⟨x134a,x134b,z110,hz135⟩=>?_
   have h:=yP h z110 hz135
   have⟨r112,w113,h⟩:=fE h
   refine JR.loud rfl rfl rfl (aM.callQ FB (qQ fuel v4 r112 w113) rfl (aA.cons (aC.fact 7 rfl) .nil)) rfl (fun x136=>(aF.b rfl (aF.b rfl (aF.b rfl (aF.b rfl (aF.h .nil .nil (aF.h .nil .nil (aF.h (aK.ix [4] rfl rfl) .nil aF.z)))))))) fun x136=>JR.loud rfl rfl rfl (aM.alloc (cs:=[Value.slice none 0 0,Value.slice none 0 0,Value.slice none 0 0,vI (0:Int),vI (0:Int),vI (0:Int),vI (0:Int),vU (0:Int)]) rfl rfl) rfl (fun b137=>(aF.h .nil .nil (aF.h .nil .nil (aF.h .nil .nil (aF.h .nil .nil (aF.h .nil .nil (aF.h .nil .nil (aF.h (aK.ix [5] rfl rfl) .nil aF.z)))))))) fun b137=>?_
   have⟨r115,w116,h⟩:=fE h
   refine JR.loud rfl rfl rfl (aM.callQ FA (qP fuel x134a x134b x4.1 x4.2.1 (List.zip x4.2.2 r2.2) x13.1 (List.zip x13.2 r11) x136 r115 w116) rfl (aA.cons (aC.fact 0 rfl) (aA.cons (aC.fact 1 rfl) (aA.cons (aC.fact 2 rfl) (aA.cons (aU (aC.res 6 rfl) cI) (aA.cons (bD (i:=7) (j:=8) rfl rfl bJ) (aA.cons (bD (i:=2) (j:=3) rfl rfl cI) (aA.cons (aU (aC.res 1 rfl) kU) (aA.cons (aC.fact 8 rfl) .nil))))))))) rfl (fun x138=>(aF.b rfl (aF.b rfl (aF.b rfl (aF.b rfl (aF.b rfl (aF.b rfl (aF.b rfl aF.z)))))))) fun x138=>aN rfl .nil .nil (dQ rfl) (aD.b rfl (aD.h .nil .nil (aD.b rfl (aD.b rfl (aD.b rfl aD.z)))))<|aN rfl .nil .nil (bF rfl rfl) (aD.b rfl (aD.h .nil .nil (aD.b rfl (aD.b rfl (aD.b rfl aD.z)))))<|aN rfl .nil .nil (bF rfl rfl) (aD.b rfl (aD.h .nil .nil (aD.b rfl (aD.b rfl (aD.b rfl aD.z)))))<|bP (Know.one ((aU (aC.res 0 rfl) kU))) fun ho140=>bP (Know.one ((aU (aC.res 1 rfl) kU))) fun ho141=>bP (Know.one (aC.sl (bD (i:=2) (j:=3) rfl rfl cI))) fun ho142=>rR rfl rfl rfl (rS 4 (vs:=[x138.1,x138.2.1,x138.2.2.1,vI (r115.1.2.2.2.1),vI (r115.1.2.2.2.2.1),vI (r115.1.2.2.2.2.2.1),vI (r115.1.2.2.2.2.2.2.1),vU (r115.1.2.2.2.2.2.2.2)]) rfl rfl (cR ho140 (cR ho141 (cR ho142 (cR rfl (cR rfl (cR rfl (cR rfl (cR rfl rfl)))))))) rfl rfl rfl) (fun x139=>(aF.h .nil .nil (aF.b rfl (aF.b rfl (aF.b rfl (aF.b rfl (aF.b rfl (aF.b rfl (aF.b rfl (aF.b rfl (aF.b rfl aF.z))))))))))) fun x139=>bL 16 rfl rfl<|qkAsg rfl<|dtN ?_
   exact cF (r115.2,r115.1.2.2.2.1,r115.1.2.2.2.2.1,r115.1.2.2.2.2.2.1,r115.1.2.2.2.2.2.2.1,r115.1.2.2.2.2.2.2.2,r115.1.1,r115.1.2.1,r115.1.2.2.1) (b137,x138.1,x138.2.1,x138.2.2.1,x138.2.2.2) h SF (aK.ix [4,0,1,2,3,6,7,9,10,11,12] rfl rfl) (aA.cons (aC.fact 3 rfl) (aA.cons (aC.fact 4 rfl) (aA.cons (aC.fact 5 rfl) (aA.cons (aC.fact 6 rfl) (aA.cons (aC.fact 7 rfl) (aA.cons (aC.fact 8 rfl) .nil))))))
  ·refine jkLdA 3 rfl<|jkMove rfl<|jkMove rfl<|jkMove rfl<|jkMove rfl<|aN rfl .nil .nil (tU rfl rfl) aD.z<|aN rfl .nil .nil (pS rfl rfl) aD.z<|JR.loud rfl rfl rfl (aM.callQ FC (lQ fuel  r104 w105) rfl .nil) rfl (fun x143=>(aF.h .nil .nil (aF.h .nil .nil (aF.h .nil .nil (aF.h .nil .nil (aF.h .nil .nil (aF.h .nil .nil (aF.h (aK.ix [3] rfl rfl) .nil aF.z)))))))) fun x143=>JR.loud rfl rfl rfl (aM.call Ho (pI fuel r107 w108) rfl (cV.cons (List.mem_of_getElem? (i:=5) rfl) .nil) (fun _ _=>rfl) (fun _ _=>rfl)) rfl (fun⟨x144a,x144b,z110,hz145⟩=>(aF.h .nil .nil (aF.h .nil .nil (aF.h .nil .nil (aF.h .nil .nil (aF.h .nil .nil (aF.h .nil .nil (aF.h (aK.ix [3] rfl rfl) .nil aF.z)))))))) fun⟨x144a,x144b,z110,hz145⟩=>?_
   have h:=yP h z110 hz145
   refine JR.loud rfl rfl rfl (aM.alloc (cs:=[Value.slice none 0 0,Value.slice none 0 0,Value.slice none 0 0,vI (0:Int),vI (0:Int),vI (0:Int),vI (0:Int),vU (0:Int)]) rfl rfl) rfl (fun b146=>(aF.h .nil .nil (aF.h .nil .nil (aF.h .nil .nil (aF.h .nil .nil (aF.h .nil .nil (aF.h .nil .nil (aF.h (aK.ix [4] rfl rfl) .nil aF.z)))))))) fun b146=>?_
   have⟨r112,w113,h⟩:=fE h
   refine JR.loud rfl rfl rfl (aM.callQ FB (qQ fuel v4 r112 w113) rfl (aA.cons (aC.fact 7 rfl) .nil)) rfl (fun x147=>(aF.b rfl (aF.b rfl (aF.b rfl (aF.b rfl (aF.h .nil .nil (aF.h .nil .nil (aF.h (aK.ix [5] rfl rfl) .nil aF.z)))))))) fun x147=>?_
   have⟨r115,w116,h⟩:=fE h
   refine JR.loud rfl rfl rfl (aM.callQ FA (qP fuel x144a x144b x4.1 x4.2.1 (List.zip x4.2.2 r2.2) x13.1 (List.zip x13.2 r11) x147 r115 w116) rfl (aA.cons (aC.fact 0 rfl) (aA.cons (aC.fact 1 rfl) (aA.cons (aC.fact 2 rfl) (aA.cons (aU (aC.res 6 rfl) cI) (aA.cons (bD (i:=7) (j:=8) rfl rfl bJ) (aA.cons (bD (i:=2) (j:=3) rfl rfl cI) (aA.cons (aU (aC.res 0 rfl) kU) (aA.cons (aC.fact 8 rfl) .nil))))))))) rfl (fun x148=>(aF.b rfl (aF.b rfl (aF.b rfl (aF.b rfl (aF.b rfl (aF.b rfl (aF.b rfl aF.z)))))))) fun x148=>aN rfl .nil .nil (dQ rfl) (aD.b rfl (aD.b rfl (aD.h .nil .nil (aD.b rfl (aD.b rfl aD.z)))))<|aN rfl .nil .nil (bF rfl rfl) (aD.b rfl (aD.b rfl (aD.h .nil .nil (aD.b rfl (aD.b rfl aD.z)))))<|aN rfl .nil .nil (bF rfl rfl) (aD.b rfl (aD.b rfl (aD.h .nil .nil (aD.b rfl (aD.b rfl aD.z)))))<|bP (Know.one ((aU (aC.res 0 rfl) kU))) fun ho150=>bP (Know.one ((aU (aC.res 1 rfl) kU))) fun ho151=>bP (Know.one (aC.sl (bD (i:=2) (j:=3) rfl rfl cI))) fun ho152=>rR rfl rfl rfl (rS 5 (vs:=[x148.1,x148.2.1,x148.2.2.1,vI (r115.1.2.2.2.1),vI (r115.1.2.2.2.2.1),vI (r115.1.2.2.2.2.2.1),vI (r115.1.2.2.2.2.2.2.1),vU (r115.1.2.2.2.2.2.2.2)]) rfl rfl (cR ho150 (cR ho151 (cR ho152 (cR rfl (cR rfl (cR rfl (cR rfl (cR rfl rfl)))))))) rfl rfl rfl) (fun x149=>(aF.h .nil .nil (aF.b rfl (aF.b rfl (aF.b rfl (aF.b rfl (aF.b rfl (aF.b rfl (aF.b rfl (aF.b rfl (aF.b rfl aF.z))))))))))) fun x149=>bL 16 rfl rfl<|qkAsg rfl<|dtN ?_
   exact cF (r115.2,r115.1.2.2.2.1,r115.1.2.2.2.2.1,r115.1.2.2.2.2.2.1,r115.1.2.2.2.2.2.2.1,r115.1.2.2.2.2.2.2.2,r115.1.1,r115.1.2.1,r115.1.2.2.1) (b146,x148.1,x148.2.1,x148.2.2.1,x148.2.2.2) h SF (aK.ix [5,0,1,2,3,6,7,9,10,11,12] rfl rfl) (aA.cons (aC.fact 3 rfl) (aA.cons (aC.fact 4 rfl) (aA.cons (aC.fact 5 rfl) (aA.cons (aC.fact 6 rfl) (aA.cons (aC.fact 7 rfl) (aA.cons (aC.fact 8 rfl) .nil))))))
  ·refine jkLdA 3 rfl<|jkMove rfl<|jkMove rfl<|jkMove rfl<|jkMove rfl<|aN rfl .nil .nil (tU rfl rfl) aD.z<|aN rfl .nil .nil (pS rfl rfl) aD.z<|JR.loud rfl rfl rfl (aM.callQ FC (lQ fuel  r104 w105) rfl .nil) rfl (fun x153=>(aF.h .nil .nil (aF.h .nil .nil (aF.h .nil .nil (aF.h .nil .nil (aF.h .nil .nil (aF.h .nil .nil (aF.h (aK.ix [3] rfl rfl) .nil aF.z)))))))) fun x153=>JR.loud rfl rfl rfl (aM.alloc (cs:=[Value.slice none 0 0,Value.slice none 0 0,Value.slice none 0 0,vI (0:Int),vI (0:Int),vI (0:Int),vI (0:Int),vU (0:Int)]) rfl rfl) rfl (fun b154=>(aF.h .nil .nil (aF.h .nil .nil (aF.h .nil .nil (aF.h .nil .nil (aF.h .nil .nil (aF.h .nil .nil (aF.h (aK.ix [4] rfl rfl) .nil aF.z)))))))) fun b154=>JR.loud rfl rfl rfl (aM.call Ho (pI fuel r107 w108) rfl (cV.cons (List.mem_of_getElem? (i:=5) rfl) .nil) (fun _ _=>rfl) (fun _ _=>rfl)) rfl (fun⟨x155a,x155b,z110,hz156⟩=>(aF.h .nil .nil (aF.h .nil .nil (aF.h .nil .nil (aF.h .nil .nil (aF.h .nil .nil (aF.h .nil .nil (aF.h (aK.ix [4] rfl rfl) .nil aF.z)))))))) fun⟨x155a,x155b,z110,hz156⟩=>?_
   have h:=yP h z110 hz156
   have⟨r112,w113,h⟩:=fE h
   refine JR.loud rfl rfl rfl (aM.callQ FB (qQ fuel v4 r112 w113) rfl (aA.cons (aC.fact 7 rfl) .nil)) rfl (fun x157=>(aF.b rfl (aF.b rfl (aF.b rfl (aF.b rfl (aF.h .nil .nil (aF.h .nil .nil (aF.h (aK.ix [5] rfl rfl) .nil aF.z)))))))) fun x157=>?_
   have⟨r115,w116,h⟩:=fE h
   refine JR.loud rfl rfl rfl (aM.callQ FA (qP fuel x155a x155b x4.1 x4.2.1 (List.zip x4.2.2 r2.2) x13.1 (List.zip x13.2 r11) x157 r115 w116) rfl (aA.cons (aC.fact 0 rfl) (aA.cons (aC.fact 1 rfl) (aA.cons (aC.fact 2 rfl) (aA.cons (aU (aC.res 6 rfl) cI) (aA.cons (bD (i:=7) (j:=8) rfl rfl bJ) (aA.cons (bD (i:=2) (j:=3) rfl rfl cI) (aA.cons (aU (aC.res 0 rfl) kU) (aA.cons (aC.fact 8 rfl) .nil))))))))) rfl (fun x158=>(aF.b rfl (aF.b rfl (aF.b rfl (aF.b rfl (aF.b rfl (aF.b rfl (aF.b rfl aF.z)))))))) fun x158=>aN rfl .nil .nil (dQ rfl) (aD.b rfl (aD.b rfl (aD.b rfl (aD.h .nil .nil (aD.b rfl aD.z)))))<|aN rfl .nil .nil (bF rfl rfl) (aD.b rfl (aD.b rfl (aD.b rfl (aD.h .nil .nil (aD.b rfl aD.z)))))<|aN rfl .nil .nil (bF rfl rfl) (aD.b rfl (aD.b rfl (aD.b rfl (aD.h .nil .nil (aD.b rfl aD.z)))))<|bP (Know.one ((aU (aC.res 0 rfl) kU))) fun ho160=>bP (Know.one ((aU (aC.res 1 rfl) kU))) fun ho161=>bP (Know.one (aC.sl (bD (i:=2) (j:=3) rfl rfl cI))) fun ho162=>rR rfl rfl rfl (rS 5 (vs:=[x158.1,x158.2.1,x158.2.2.1,vI (r115.1.2.2.2.1),vI (r115.1.2.2.2.2.1),vI (r115.1.2.2.2.2.2.1),vI (r115.1.2.2.2.2.2.2.1),vU (r115.1.2.2.2.2.2.2.2)]) rfl rfl (cR ho160 (cR ho161 (cR ho162 (cR rfl (cR rfl (cR rfl (cR rfl (cR rfl rfl)))))))) rfl rfl rfl) (fun x159=>(aF.h .nil .nil (aF.b rfl (aF.b rfl (aF.b rfl (aF.b rfl (aF.b rfl (aF.b rfl (aF.b rfl (aF.b rfl (aF.b rfl aF.z))))))))))) fun x159=>bL 16 rfl rfl<|qkAsg rfl<|dtN ?_
   exact cF (r115.2,r115.1.2.2.2.1,r115.1.2.2.2.2.1,r115.1.2.2.2.2.2.1,r115.1.2.2.2.2.2.2.1,r115.1.2.2.2.2.2.2.2,r115.1.1,r115.1.2.1,r115.1.2.2.1) (b154,x158.1,x158.2.1,x158.2.2.1,x158.2.2.2) h SF (aK.ix [5,0,1,2,3,6,7,9,10,11,12] rfl rfl) (aA.cons (aC.fact 3 rfl) (aA.cons (aC.fact 4 rfl) (aA.cons (aC.fact 5 rfl) (aA.cons (aC.fact 6 rfl) (aA.cons (aC.fact 7 rfl) (aA.cons (aC.fact 8 rfl) .nil))))))
  refine jkLdA 3 rfl<|jkMove rfl<|jkMove rfl<|jkMove rfl<|jkMove rfl<|aN rfl .nil .nil (tU rfl rfl) aD.z<|aN rfl .nil .nil (pS rfl rfl) aD.z<|JR.loud rfl rfl rfl (aM.alloc (cs:=[Value.slice none 0 0,Value.slice none 0 0,Value.slice none 0 0,vI (0:Int),vI (0:Int),vI (0:Int),vI (0:Int),vU (0:Int)]) rfl rfl) rfl (fun b163=>(aF.h .nil .nil (aF.h .nil .nil (aF.h .nil .nil (aF.h .nil .nil (aF.h .nil .nil (aF.h .nil .nil (aF.h (aK.ix [4] rfl rfl) .nil aF.z)))))))) fun b163=>JR.loud rfl rfl rfl (aM.callQ FC (lQ fuel  r104 w105) rfl .nil) rfl (fun x164=>(aF.h .nil .nil (aF.h .nil .nil (aF.h .nil .nil (aF.h .nil .nil (aF.h .nil .nil (aF.h .nil .nil (aF.h (aK.ix [4] rfl rfl) .nil aF.z)))))))) fun x164=>JR.loud rfl rfl rfl (aM.call Ho (pI fuel r107 w108) rfl (cV.cons (List.mem_of_getElem? (i:=5) rfl) .nil) (fun _ _=>rfl) (fun _ _=>rfl)) rfl (fun⟨x165a,x165b,z110,hz166⟩=>(aF.h .nil .nil (aF.h .nil .nil (aF.h .nil .nil (aF.h .nil .nil (aF.h .nil .nil (aF.h .nil .nil (aF.h (aK.ix [4] rfl rfl) .nil aF.z)))))))) fun⟨x165a,x165b,z110,hz166⟩=>?_
  have h:=yP h z110 hz166
  have⟨r112,w113,h⟩:=fE h
  refine JR.loud rfl rfl rfl (aM.callQ FB (qQ fuel v4 r112 w113) rfl (aA.cons (aC.fact 7 rfl) .nil)) rfl (fun x167=>(aF.b rfl (aF.b rfl (aF.b rfl (aF.b rfl (aF.h .nil .nil (aF.h .nil .nil (aF.h (aK.ix [5] rfl rfl) .nil aF.z)))))))) fun x167=>?_
  have⟨r115,w116,h⟩:=fE h
  refine JR.loud rfl rfl rfl (aM.callQ FA (qP fuel x165a x165b x4.1 x4.2.1 (List.zip x4.2.2 r2.2) x13.1 (List.zip x13.2 r11) x167 r115 w116) rfl (aA.cons (aC.fact 0 rfl) (aA.cons (aC.fact 1 rfl) (aA.cons (aC.fact 2 rfl) (aA.cons (aU (aC.res 6 rfl) cI) (aA.cons (bD (i:=7) (j:=8) rfl rfl bJ) (aA.cons (bD (i:=2) (j:=3) rfl rfl cI) (aA.cons (aU (aC.res 0 rfl) kU) (aA.cons (aC.fact 8 rfl) .nil))))))))) rfl (fun x168=>(aF.b rfl (aF.b rfl (aF.b rfl (aF.b rfl (aF.b rfl (aF.b rfl (aF.b rfl aF.z)))))))) fun x168=>aN rfl .nil .nil (dQ rfl) (aD.b rfl (aD.b rfl (aD.b rfl (aD.b rfl (aD.h .nil .nil aD.z)))))<|aN rfl .nil .nil (bF rfl rfl) (aD.b rfl (aD.b rfl (aD.b rfl (aD.b rfl (aD.h .nil .nil aD.z)))))<|aN rfl .nil .nil (bF rfl rfl) (aD.b rfl (aD.b rfl (aD.b rfl (aD.b rfl (aD.h .nil .nil aD.z)))))<|bP (Know.one ((aU (aC.res 0 rfl) kU))) fun ho170=>bP (Know.one ((aU (aC.res 1 rfl) kU))) fun ho171=>bP (Know.one (aC.sl (bD (i:=2) (j:=3) rfl rfl cI))) fun ho172=>rR rfl rfl rfl (rS 5 (vs:=[x168.1,x168.2.1,x168.2.2.1,vI (r115.1.2.2.2.1),vI (r115.1.2.2.2.2.1),vI (r115.1.2.2.2.2.2.1),vI (r115.1.2.2.2.2.2.2.1),vU (r115.1.2.2.2.2.2.2.2)]) rfl rfl (cR ho170 (cR ho171 (cR ho172 (cR rfl (cR rfl (cR rfl (cR rfl (cR rfl rfl)))))))) rfl rfl rfl) (fun x169=>(aF.h .nil .nil (aF.b rfl (aF.b rfl (aF.b rfl (aF.b rfl (aF.b rfl (aF.b rfl (aF.b rfl (aF.b rfl (aF.b rfl aF.z))))))))))) fun x169=>bL 16 rfl rfl<|qkAsg rfl<|dtN ?_
  exact cF (r115.2,r115.1.2.2.2.1,r115.1.2.2.2.2.1,r115.1.2.2.2.2.2.1,r115.1.2.2.2.2.2.2.1,r115.1.2.2.2.2.2.2.2,r115.1.1,r115.1.2.1,r115.1.2.2.1) (b163,x168.1,x168.2.1,x168.2.2.1,x168.2.2.2) h SF (aK.ix [5,0,1,2,3,6,7,9,10,11,12] rfl rfl) (aA.cons (aC.fact 3 rfl) (aA.cons (aC.fact 4 rfl) (aA.cons (aC.fact 5 rfl) (aA.cons (aC.fact 6 rfl) (aA.cons (aC.fact 7 rfl) (aA.cons (aC.fact 8 rfl) .nil))))))
 clear h
 intro a28 b29 h
 unfold lZ at h
 refine aL<|aL<|midU (fun a31=>iS fuel p2 r2 r11 a28 a31=some r) (fun a31 b32=>[(2,vU (p2)),(9,vP b5),(10,vI (List.length r2.2:Int)),(11,x13.1),(12,vP b29.1),(47,Value.bool (a31))]) (fun a31 b32=>[bO b29.1 [b29.2.1,b29.2.2.1,b29.2.2.2.1,vI (a28.2.1),vI (a28.2.2.1),vI (a28.2.2.2.1),vI (a28.2.2.2.2.1),vU (a28.2.2.2.2.2.1)] 44,Ar jV b29.2.1 a28.2.2.2.2.2.2.1,Ar jV b29.2.2.1 a28.2.2.2.2.2.2.2.1,Ar dJ.raw b29.2.2.2.1 b29.2.2.2.2,jG bY b29.2.2.2.2 a28.2.2.2.2.2.2.2.2,Ar dJ.raw x13.1 x13.2,jG bY x13.2 r11,bO b5 [x4.1,x4.2.1] 28,Ar bY x4.1 r2.1,Ar dJ.raw x4.2.1 x4.2.2,jG bR x4.2.2 r2.2]) ?_ ?_
 ·refine aO<|qkMove rfl<|aB (kR rfl rfl) rfl<|qkMove rfl ?_
  refine Cy h rfl (fun _ h=>?_) fun _ h=>?_
  ·refine gdSkip rfl<|gdSkip rfl<|gdSkip rfl<|gdSkip rfl<|gdSkip rfl<|aB (bW rfl rfl) rfl<|dtN ?_
   exact iJ (true) () h SF rfl
  refine aT rfl (dD rfl rfl rfl rfl rfl) rfl<|aT rfl (dO 0 rfl rfl rfl rfl rfl) rfl<|aT rfl (iX rfl (bD (i:=3) (j:=4) rfl rfl cI) rfl) rfl<|gyMove rfl<|aT rfl (kR rfl rfl) rfl<|aB (cA rfl rfl) rfl<|dtN ?_
  exact iJ (decide ((List.length a28.2.2.2.2.2.2.2.2:Int)≠(List.length r2.2:Int))) () h SF rfl
 clear h
 intro a31 b32 h
 unfold iS at h
 refine zJ h rfl (fun _ h=>?_) fun _ h=>?_
 ·refine sqR<|qkAsg rfl<|dtN<|aS<|aJ ?_
  cases h
  exact vJ rfl
 refine iV<|sqR<|qkLdA 0 rfl<|qkMove rfl ?_
 have⟨r34,w35,h⟩:=fE h
 refine aG (aM.callQ VN (Ha fuel b29.2.1 b29.2.2.1 b29.2.2.2.1 (List.zip b29.2.2.2.2 a28.2.2.2.2.2.2.2.2) r34 w35) rfl (aA.cons (aU (aC.res 1 rfl) kU) (aA.cons (aU (aC.res 2 rfl) kU) (aA.cons (bD (i:=3) (j:=4) rfl rfl cI) .nil)))) rfl fun x36=>qkAsg rfl<|dtN<|aL<|midU (fun a37=>l_ fuel p2 r2 a28 a37=some r) (fun a37 b38=>[(2,vU (p2)),(9,vP b5),(12,vP b29.1)]) (fun a37 b38=>[bO b29.1 [b29.2.1,b29.2.2.1,b29.2.2.2.1,vI (a28.2.1),vI (a28.2.2.1),vI (a28.2.2.2.1),vI (a28.2.2.2.2.1),vU (a28.2.2.2.2.2.1)] 44,Ar jV b29.2.1 a28.2.2.2.2.2.2.1,Ar jV b29.2.2.1 a28.2.2.2.2.2.2.2.1,Ar dJ.raw b29.2.2.2.1 b29.2.2.2.2,jG bY b29.2.2.2.2 a28.2.2.2.2.2.2.2.2,bO b5 [x4.1,x4.2.1] 28,Ar bY x4.1 r2.1,Ar dJ.raw x4.2.1 x4.2.2,jG bR x4.2.2 r2.2]) ?_ ?_
 ·refine sqR<|qkAsg rfl<|dtN<|aQ<|loopL (e_ fuel p2 r2 r11 a28 r34) (fun a51 b52=>[(2,vU (p2)),(9,vP b5),(10,vI (List.length r2.2:Int)),(11,x13.1),(12,vP b29.1),(14,x36),(15,vI (a51))]) (fun a51 b52=>[Ar bY x36 r34,bO b29.1 [b29.2.1,b29.2.2.1,b29.2.2.2.1,vI (a28.2.1),vI (a28.2.2.1),vI (a28.2.2.2.1),vI (a28.2.2.2.2.1),vU (a28.2.2.2.2.2.1)] 44,Ar jV b29.2.1 a28.2.2.2.2.2.2.1,Ar jV b29.2.2.1 a28.2.2.2.2.2.2.2.1,Ar dJ.raw b29.2.2.2.1 b29.2.2.2.2,jG bY b29.2.2.2.2 a28.2.2.2.2.2.2.2.2,Ar dJ.raw x13.1 x13.2,jG bY x13.2 r11,bO b5 [x4.1,x4.2.1] 28,Ar bY x4.1 r2.1,Ar dJ.raw x4.2.1 x4.2.2,jG bR x4.2.2 r2.2]) (0:Int) () h SF (aK.refl _) ?_
  clear h
  intro k53 a51 b52 h
  unfold e_ at h
  refine aL<|sqR<|qkMove rfl<|qkMove rfl<|qkLss rfl<|dtN ?_
  refine eL h rfl (fun h=>?_) fun h=>?_
  ·refine iV<|aL<|aQ<|aL<|midU (fun a56=>cL a51 (bG (e_ fuel p2 r2 r11 a28 r34) k53) a56=some r) (fun a56 b57=>[(2,vU (p2)),(9,vP b5),(10,vI (List.length r2.2:Int)),(11,x13.1),(12,vP b29.1),(14,x36),(15,vI (a51)),(102,Value.bool (a56))]) (fun a56 b57=>[Ar bY x36 r34,bO b29.1 [b29.2.1,b29.2.2.1,b29.2.2.2.1,vI (a28.2.1),vI (a28.2.2.1),vI (a28.2.2.2.1),vI (a28.2.2.2.2.1),vU (a28.2.2.2.2.2.1)] 44,Ar jV b29.2.1 a28.2.2.2.2.2.2.1,Ar jV b29.2.2.1 a28.2.2.2.2.2.2.2.1,Ar dJ.raw b29.2.2.2.1 b29.2.2.2.2,jG bY b29.2.2.2.2 a28.2.2.2.2.2.2.2.2,Ar dJ.raw x13.1 x13.2,jG bY x13.2 r11,bO b5 [x4.1,x4.2.1] 28,Ar bY x4.1 r2.1,Ar dJ.raw x4.2.1 x4.2.2,jG bR x4.2.2 r2.2]) ?_ ?_
   ·refine JR.start [0,0,3,7,15,31,63,63,255,511,1023,2047,4095,4095,16383,32767,65535,131071,262143,262143,1048575,2097151,4194303,8388607,4194303,33554431,67108863,134217727,268435455,536870911,1073741823,2147483647,1073741823,8589934591,17179869183,34359738367,68719476735,1073741823,1073741823,413390602239,963146416127,2062658043903,4261681299455,8796093022207,17592186044415,35184372088831,70368744177663] 43 mixedOrders (by decide +kernel) ?_
    refine JR.open (by exact rfl) ?_
    refine jkMove rfl<|jkMove rfl ?_
    have⟨j59,h⟩:=aH h
    refine aN rfl (aK.cons 0 rfl .nil) .nil (a_ rfl rfl (aU (aC.res 0 rfl) cI) rfl rfl j59) aD.z<|aN rfl (aK.cons 0 rfl .nil) .nil (bS rfl (aU (aC.res 0 rfl) cI) rfl rfl rfl dB j59) aD.z<|aN rfl .nil .nil (tT rfl rfl) aD.z<|jkMove rfl ?_
    refine yJ (by exact rfl) (by exact rfl) (by exact rfl) (fun hp60=>?_) (fun hp60=>?_)
    ·have h:=Jj hp60 h
     refine aY rfl rfl rfl rfl<|aY rfl rfl rfl rfl<|aY rfl rfl rfl rfl<|aY rfl rfl rfl rfl<|aY rfl rfl rfl rfl<|aY rfl rfl rfl rfl<|cP (h:= ?_)
     refine cP (h:= ?_)
     refine cP (h:= ?_)
     refine aY rfl rfl rfl rfl<|aN rfl .nil .nil (bW rfl rfl) aD.z<|jkMove rfl<|aY rfl rfl rfl rfl<|aY rfl rfl rfl rfl<|aY rfl rfl rfl rfl<|aY rfl rfl rfl rfl<|cP (h:= ?_)
     refine cP (h:= ?_)
     refine cP (h:= ?_)
     refine cP (h:= ?_)
     refine cP (h:= ?_)
     refine cP (h:= ?_)
     refine cP (h:= ?_)
     refine cP (h:= ?_)
     refine cP (h:= ?_)
     refine cP (h:= ?_)
     refine cP (h:= ?_)
     refine cP (h:= ?_)
     refine cP (h:= ?_)
     refine cP (h:= ?_)
     refine cP (h:= ?_)
     refine cP (h:= ?_)
     refine cP (h:= ?_)
     refine cP (h:= ?_)
     refine cP (h:= ?_)
     refine cP (h:= ?_)
     refine cP (h:= ?_)
     refine bL 43 rfl rfl<|Ob (h:= ?_)
     refine Ob (h:= ?_)
     refine gdSkip rfl<|aB (bW rfl rfl) rfl<|dtN ?_
     exact iJ (true) () h SF rfl
    have h:=Uo hp60 h
    refine bU rfl .nil .nil (dQ rfl) aD.z<|bU rfl .nil .nil (dQ rfl) aD.z ?_
    have⟨j61,h⟩:=aH h
    refine bU rfl (aK.cons 0 rfl .nil) .nil (a_ rfl rfl (aU (aC.res 0 rfl) cI) rfl rfl j61) aD.z<|bU rfl (aK.cons 0 rfl .nil) .nil (bS rfl (aU (aC.res 0 rfl) cI) rfl rfl rfl dB j61) aD.z<|bU rfl .nil .nil (tT rfl rfl) aD.z<|bU rfl .nil .nil (dQ rfl) aD.z ?_
    refine yJ (by exact rfl) (by exact rfl) (by exact rfl) (fun hp62=>?_) (fun hp62=>?_)
    ·have h:=Jj hp62 h
     refine bU rfl .nil .nil (dQ rfl) aD.z<|bU rfl .nil .nil (dQ rfl) aD.z ?_
     have⟨r63,w64,h⟩:=fE h
     refine Fh rfl rfl rfl rfl (aM.callQ Iu (x_ fuel  r63 w64) rfl .nil) rfl (fun x65=>(aF.b rfl (aF.b rfl (aF.b rfl (aF.b rfl (aF.b rfl (aF.b rfl (aF.b rfl (aF.b rfl (aF.b rfl (aF.b rfl (aF.b rfl (aF.b rfl (aF.b rfl (aF.b rfl aF.z))))))))))))))) fun x65=>bU rfl .nil .nil (bW rfl rfl) (aD.b rfl aD.z)<|aN rfl .nil .nil (cA rfl rfl) (aD.b rfl aD.z)<|aN rfl .nil .nil (dQ rfl) (aD.b rfl aD.z) ?_
     refine JR.guard (by exact rfl) (by exact rfl) (by exact rfl) (fun hp66=>?_) (fun hp66=>?_)
     ·have h:=Jj hp66 h
      refine aY rfl rfl rfl rfl<|aY rfl rfl rfl rfl<|aY rfl rfl rfl rfl<|aY rfl rfl rfl rfl<|cP (h:= ?_)
      refine cP (h:= ?_)
      refine cP (h:= ?_)
      refine cP (h:= ?_)
      refine cP (h:= ?_)
      refine cP (h:= ?_)
      refine cP (h:= ?_)
      refine cP (h:= ?_)
      refine cP (h:= ?_)
      refine cP (h:= ?_)
      refine cP (h:= ?_)
      refine cP (h:= ?_)
      refine cP (h:= ?_)
      refine cP (h:= ?_)
      refine cP (h:= ?_)
      refine cP (h:= ?_)
      refine cP (h:= ?_)
      refine cP (h:= ?_)
      refine cP (h:= ?_)
      refine cP (h:= ?_)
      refine cP (h:= ?_)
      refine bL 43 rfl rfl<|Ob (h:= ?_)
      refine Ob (h:= ?_)
      refine gdSkip rfl<|aB (bW rfl rfl) rfl<|dtN ?_
      exact iJ (true) () h SF rfl
     have h:=IE hp66 h
     refine bU rfl .nil .nil (dQ rfl) (aD.b rfl aD.z)<|bU rfl .nil .nil (dQ rfl) (aD.b rfl aD.z) ?_
     have⟨r67,w68,h⟩:=fE h
     refine Fh rfl rfl rfl rfl (aM.callQ Iu (x_ fuel  r67 w68) rfl .nil) rfl (fun x69=>(aF.b rfl (aF.b rfl (aF.b rfl (aF.b rfl (aF.b rfl (aF.b rfl (aF.b rfl (aF.b rfl (aF.b rfl (aF.b rfl (aF.b rfl (aF.b rfl (aF.b rfl (aF.b rfl (aF.b rfl (aF.b rfl (aF.b rfl (aF.b rfl (aF.b rfl aF.z)))))))))))))))))))) fun x69=>bU rfl .nil .nil (dQ rfl) (aD.b rfl (aD.b rfl aD.z)) ?_
     refine JR.guard (by exact rfl) (by exact rfl) (by exact rfl) (fun hp70=>?_) (fun hp70=>?_)
     ·have h:=Jj hp70 h
      refine bU rfl .nil .nil (dD rfl rfl rfl rfl rfl) (aD.b rfl (aD.b rfl aD.z))<|bU rfl (aK.cons 1 rfl .nil) .nil (dO 0 rfl rfl rfl rfl rfl) (aD.b rfl (aD.b rfl aD.z))<|bU rfl .nil .nil (dQ rfl) (aD.b rfl (aD.b rfl aD.z)) ?_
      have⟨j71,h⟩:=aH h
      refine bP (bX 5 rfl) fun hl72=>?_
      refine bU rfl (aK.cons 4 rfl .nil) .nil (fD 0 rfl rfl rfl rfl rfl j71.1 (by have q1:=j71.2;have q2:=hl72;(try simp only[List.length_set]at q1);(try simp only[List.length_set]at q2);(try simp only[List.length_set]);omega)) (aD.b rfl (aD.b rfl aD.z)) ?_
      refine bP (bX 5 rfl) fun hl73=>bU rfl (aK.cons 4 rfl .nil) .nil (gR 0 rfl rfl hl73 rfl rfl j71) (aD.b rfl (aD.b rfl aD.z))<|bU rfl (aK.cons 5 rfl .nil) .nil (b_ rfl (aC.row (j:=0) rfl cI j71.1 j71.2) rfl) (aD.b rfl (aD.b rfl aD.z))<|bU rfl .nil .nil (kR rfl rfl) (aD.b rfl (aD.b rfl aD.z))<|bU rfl .nil .nil (dQ rfl) (aD.b rfl (aD.b rfl aD.z)) ?_
      refine yJ (by exact rfl) (by exact rfl) (by exact rfl) (fun hp74=>?_) (fun hp74=>?_)
      ·have h:=Jj hp74 h
       refine aY rfl rfl rfl rfl<|aY rfl rfl rfl rfl<|aY rfl rfl rfl rfl<|aY rfl rfl rfl rfl<|aY rfl rfl rfl rfl<|aY rfl rfl rfl rfl<|aY rfl rfl rfl rfl<|aY rfl rfl rfl rfl<|aY rfl rfl rfl rfl<|aY rfl rfl rfl rfl<|aY rfl rfl rfl rfl<|aY rfl rfl rfl rfl<|aY rfl rfl rfl rfl<|bL 43 rfl rfl<|gdSkip rfl<|aT rfl (bW rfl rfl) rfl<|aT rfl (bW rfl rfl) rfl<|aB (cA rfl rfl) rfl<|dtN ?_
       exact iJ (true) () h SF rfl
      have h:=Uo hp74 h
      refine bU rfl .nil .nil (dD rfl rfl rfl rfl rfl) (aD.b rfl (aD.b rfl aD.z))<|bU rfl (aK.cons 1 rfl .nil) .nil (dO 0 rfl rfl rfl rfl rfl) (aD.b rfl (aD.b rfl aD.z))<|bU rfl .nil .nil (dQ rfl) (aD.b rfl (aD.b rfl aD.z)) ?_
      have⟨j75,h⟩:=aH h
      refine bP (bX 5 rfl) fun hl76=>?_
      refine bU rfl (aK.cons 4 rfl .nil) .nil (fD 0 rfl rfl rfl rfl rfl j75.1 (by have q1:=j75.2;have q2:=hl76;(try simp only[List.length_set]at q1);(try simp only[List.length_set]at q2);(try simp only[List.length_set]);omega)) (aD.b rfl (aD.b rfl aD.z)) ?_
      refine bP (bX 5 rfl) fun hl77=>bU rfl (aK.cons 4 rfl .nil) .nil (gR 0 rfl rfl hl77 rfl rfl j75) (aD.b rfl (aD.b rfl aD.z)) ?_
      have⟨j78,h⟩:=aH h
      refine bP (Know.len (aC.row (j:=5) rfl cI j75.1 j75.2)) fun hl79=>bU rfl .nil .nil (yN rfl rfl hl79 rfl rfl j78) (aD.b rfl (aD.b rfl aD.z))<|bU rfl (aK.cons 5 rfl .nil) .nil (bS rfl (aC.row (j:=0) rfl cI j75.1 j75.2) rfl rfl rfl dB j78) (aD.b rfl (aD.b rfl aD.z))<|bU rfl .nil .nil (dQ rfl) (aD.b rfl (aD.b rfl aD.z))<|bU rfl .nil .nil (dQ rfl) (aD.b rfl (aD.b rfl aD.z)) ?_
      have⟨j80,h⟩:=aH h
      refine bP (bX 7 rfl) fun hl81=>?_
      refine bU rfl (aK.cons 6 rfl .nil) .nil (fD 0 rfl rfl rfl rfl rfl j80.1 (by have q1:=j80.2;have q2:=hl81;(try simp only[List.length_set]at q1);(try simp only[List.length_set]at q2);(try simp only[List.length_set]);omega)) (aD.b rfl (aD.b rfl aD.z)) ?_
      refine bP (bX 7 rfl) fun hl82=>bU rfl (aK.cons 6 rfl .nil) .nil (gR 0 rfl rfl hl82 rfl rfl j80) (aD.b rfl (aD.b rfl aD.z)) ?_
      have⟨j83,h⟩:=aH h
      refine bP (Know.len (aC.row (j:=7) rfl cI j80.1 j80.2)) fun hl84=>bU rfl .nil .nil (yN rfl rfl hl84 rfl rfl j83) (aD.b rfl (aD.b rfl aD.z))<|bU rfl (aK.cons 7 rfl .nil) .nil (bS rfl (aC.row (j:=0) rfl cI j80.1 j80.2) rfl rfl rfl dB j83) (aD.b rfl (aD.b rfl aD.z))<|bL 43 rfl rfl<|aT rfl (kR rfl rfl) rfl<|aT rfl (cA rfl rfl) rfl<|aT rfl (bW rfl rfl) rfl<|aB (cA rfl rfl) rfl<|dtN ?_
      exact iJ (decide ((at' (at' a28.2.2.2.2.2.2.2.2 a51) (0:Int))≠(at' (at' r11 a51) (0:Int)))) () h SF rfl
     have h:=IE hp70 h
     refine aY rfl rfl rfl rfl<|aY rfl rfl rfl rfl<|aY rfl rfl rfl rfl<|aY rfl rfl rfl rfl<|aY rfl rfl rfl rfl<|aY rfl rfl rfl rfl<|aY rfl rfl rfl rfl<|aY rfl rfl rfl rfl<|cP (h:= ?_)
     refine cP (h:= ?_)
     refine cP (h:= ?_)
     refine cP (h:= ?_)
     refine cP (h:= ?_)
     refine cP (h:= ?_)
     refine cP (h:= ?_)
     refine cP (h:= ?_)
     refine cP (h:= ?_)
     refine cP (h:= ?_)
     refine cP (h:= ?_)
     refine cP (h:= ?_)
     refine cP (h:= ?_)
     refine bL 43 rfl rfl<|Ob (h:= ?_)
     refine gdSkip rfl<|aT rfl (cA rfl rfl) rfl<|aB (cA rfl rfl) rfl<|dtN ?_
     exact iJ (false) () h SF rfl
    have h:=Uo hp62 h
    refine aY rfl rfl rfl rfl<|aY rfl rfl rfl rfl<|aY rfl rfl rfl rfl<|bU rfl .nil .nil (cA rfl rfl) aD.z<|aN rfl .nil .nil (cA rfl rfl) aD.z<|jkMove rfl<|bU rfl .nil .nil (dQ rfl) aD.z<|bU rfl .nil .nil (dQ rfl) aD.z ?_
    have⟨r85,w86,h⟩:=fE h
    refine Fh rfl rfl rfl rfl (aM.callQ Iu (x_ fuel  r85 w86) rfl .nil) rfl (fun x87=>(aF.b rfl (aF.b rfl (aF.b rfl (aF.b rfl (aF.b rfl (aF.b rfl (aF.b rfl (aF.b rfl (aF.b rfl (aF.b rfl (aF.b rfl (aF.b rfl (aF.b rfl (aF.b rfl (aF.b rfl (aF.b rfl (aF.b rfl aF.z)))))))))))))))))) fun x87=>bU rfl .nil .nil (dQ rfl) (aD.b rfl aD.z) ?_
    refine JR.guard (by exact rfl) (by exact rfl) (by exact rfl) (fun hp88=>?_) (fun hp88=>?_)
    ·have h:=Jj hp88 h
     refine bU rfl .nil .nil (dD rfl rfl rfl rfl rfl) (aD.b rfl aD.z)<|bU rfl (aK.cons 1 rfl .nil) .nil (dO 0 rfl rfl rfl rfl rfl) (aD.b rfl aD.z)<|bU rfl .nil .nil (dQ rfl) (aD.b rfl aD.z) ?_
     have⟨j89,h⟩:=aH h
     refine bP (bX 5 rfl) fun hl90=>?_
     refine bU rfl (aK.cons 4 rfl .nil) .nil (fD 0 rfl rfl rfl rfl rfl j89.1 (by have q1:=j89.2;have q2:=hl90;(try simp only[List.length_set]at q1);(try simp only[List.length_set]at q2);(try simp only[List.length_set]);omega)) (aD.b rfl aD.z) ?_
     refine bP (bX 5 rfl) fun hl91=>bU rfl (aK.cons 4 rfl .nil) .nil (gR 0 rfl rfl hl91 rfl rfl j89) (aD.b rfl aD.z)<|bU rfl (aK.cons 5 rfl .nil) .nil (b_ rfl (aC.row (j:=0) rfl cI j89.1 j89.2) rfl) (aD.b rfl aD.z)<|bU rfl .nil .nil (kR rfl rfl) (aD.b rfl aD.z)<|bU rfl .nil .nil (dQ rfl) (aD.b rfl aD.z) ?_
     refine yJ (by exact rfl) (by exact rfl) (by exact rfl) (fun hp92=>?_) (fun hp92=>?_)
     ·have h:=Jj hp92 h
      refine aY rfl rfl rfl rfl<|aY rfl rfl rfl rfl<|aY rfl rfl rfl rfl<|aY rfl rfl rfl rfl<|aY rfl rfl rfl rfl<|aY rfl rfl rfl rfl<|aY rfl rfl rfl rfl<|aY rfl rfl rfl rfl<|aY rfl rfl rfl rfl<|aY rfl rfl rfl rfl<|aY rfl rfl rfl rfl<|aY rfl rfl rfl rfl<|aY rfl rfl rfl rfl<|bL 43 rfl rfl<|gdSkip rfl<|aT rfl (bW rfl rfl) rfl<|aT rfl (bW rfl rfl) rfl<|aB (cA rfl rfl) rfl<|dtN ?_
      exact iJ (true) () h SF rfl
     have h:=Uo hp92 h
     refine bU rfl .nil .nil (dD rfl rfl rfl rfl rfl) (aD.b rfl aD.z)<|bU rfl (aK.cons 1 rfl .nil) .nil (dO 0 rfl rfl rfl rfl rfl) (aD.b rfl aD.z)<|bU rfl .nil .nil (dQ rfl) (aD.b rfl aD.z) ?_
     have⟨j93,h⟩:=aH h
     refine bP (bX 5 rfl) fun hl94=>?_
     refine bU rfl (aK.cons 4 rfl .nil) .nil (fD 0 rfl rfl rfl rfl rfl j93.1 (by have q1:=j93.2;have q2:=hl94;(try simp only[List.length_set]at q1);(try simp only[List.length_set]at q2);(try simp only[List.length_set]);omega)) (aD.b rfl aD.z) ?_
     refine bP (bX 5 rfl) fun hl95=>bU rfl (aK.cons 4 rfl .nil) .nil (gR 0 rfl rfl hl95 rfl rfl j93) (aD.b rfl aD.z) ?_
     have⟨j96,h⟩:=aH h
     refine bP (Know.len (aC.row (j:=5) rfl cI j93.1 j93.2)) fun hl97=>bU rfl .nil .nil (yN rfl rfl hl97 rfl rfl j96) (aD.b rfl aD.z)<|bU rfl (aK.cons 5 rfl .nil) .nil (bS rfl (aC.row (j:=0) rfl cI j93.1 j93.2) rfl rfl rfl dB j96) (aD.b rfl aD.z)<|bU rfl .nil .nil (dQ rfl) (aD.b rfl aD.z)<|bU rfl .nil .nil (dQ rfl) (aD.b rfl aD.z) ?_
     have⟨j98,h⟩:=aH h
     refine bP (bX 7 rfl) fun hl99=>?_
     refine bU rfl (aK.cons 6 rfl .nil) .nil (fD 0 rfl rfl rfl rfl rfl j98.1 (by have q1:=j98.2;have q2:=hl99;(try simp only[List.length_set]at q1);(try simp only[List.length_set]at q2);(try simp only[List.length_set]);omega)) (aD.b rfl aD.z) ?_
     refine bP (bX 7 rfl) fun hl100=>bU rfl (aK.cons 6 rfl .nil) .nil (gR 0 rfl rfl hl100 rfl rfl j98) (aD.b rfl aD.z) ?_
     have⟨j101,h⟩:=aH h
     refine bP (Know.len (aC.row (j:=7) rfl cI j98.1 j98.2)) fun hl102=>bU rfl .nil .nil (yN rfl rfl hl102 rfl rfl j101) (aD.b rfl aD.z)<|bU rfl (aK.cons 7 rfl .nil) .nil (bS rfl (aC.row (j:=0) rfl cI j98.1 j98.2) rfl rfl rfl dB j101) (aD.b rfl aD.z)<|bL 43 rfl rfl<|aT rfl (kR rfl rfl) rfl<|aT rfl (cA rfl rfl) rfl<|aT rfl (bW rfl rfl) rfl<|aB (cA rfl rfl) rfl<|dtN ?_
     exact iJ (decide ((at' (at' a28.2.2.2.2.2.2.2.2 a51) (0:Int))≠(at' (at' r11 a51) (0:Int)))) () h SF rfl
    have h:=IE hp88 h
    refine aY rfl rfl rfl rfl<|aY rfl rfl rfl rfl<|aY rfl rfl rfl rfl<|aY rfl rfl rfl rfl<|aY rfl rfl rfl rfl<|aY rfl rfl rfl rfl<|aY rfl rfl rfl rfl<|aY rfl rfl rfl rfl<|cP (h:= ?_)
    refine cP (h:= ?_)
    refine cP (h:= ?_)
    refine cP (h:= ?_)
    refine cP (h:= ?_)
    refine cP (h:= ?_)
    refine cP (h:= ?_)
    refine cP (h:= ?_)
    refine cP (h:= ?_)
    refine cP (h:= ?_)
    refine cP (h:= ?_)
    refine cP (h:= ?_)
    refine cP (h:= ?_)
    refine bL 43 rfl rfl<|Ob (h:= ?_)
    refine gdSkip rfl<|aT rfl (cA rfl rfl) rfl<|aB (cA rfl rfl) rfl<|dtN ?_
    exact iJ (false) () h SF rfl
   clear h
   intro a56 b57 h
   unfold cL at h
   refine zJ h rfl (fun _ h=>?_) fun _ h=>?_
   ·refine sqR<|qkAsg rfl<|dtN<|aS<|bK<|aJ<|aJ<|bK<|aJ ?_
    cases h
    exact vJ rfl
   refine cU<|inT<|aO<|qkMove rfl<|qkAdd rfl<|qkAsg rfl<|dtN ?_
   exact xK (wI .i64 (a51+(1:Int))) () h SF rfl
  refine xO ?_
  exact cF () (()) h SF (aK.ix [1,2,3,4,5,8,9,10,11] rfl rfl) (aA.refl _ _)
 clear h
 intro a37 b38 h
 unfold l_ at h
 refine aL<|midU (fun a40=>iU  a40=some r) (fun a40 b41=>[(8,Value.bool (a40))]) (fun a40 b41=>[]) ?_ ?_
 ·refine aO ?_
  have⟨r42,w43,h⟩:=fE h
  refine aG (aM.callQ Qf (G_ fuel  r42 w43) rfl (aA.cons (aC.fact 5 rfl) .nil)) rfl fun x44=>qkMove rfl ?_
  refine Bf (by exact rfl) (by exact rfl) (fun hp45=>?_) (fun hp45=>?_)
  ·have h:=Jj hp45 h
   refine aT rfl (lB 5 rfl rfl rfl rfl) rfl<|aT rfl (dD rfl rfl rfl rfl rfl) rfl<|aT rfl (dO 0 rfl rfl rfl rfl rfl) rfl<|gyMove rfl ?_
   have⟨r46,w47,h⟩:=fE h
   refine qT rfl (aM.callQ VQ (BL fuel x4.1 x4.2.1 (List.zip x4.2.2 r2.2) b29.2.2.2.1 (List.zip b29.2.2.2.2 a28.2.2.2.2.2.2.2.2) r46 w47) rfl (aA.cons (aU (aC.res 6 rfl) cI) (aA.cons (bD (i:=7) (j:=8) rfl rfl bJ) (aA.cons (bD (i:=3) (j:=4) rfl rfl cI) .nil)))) rfl fun x48=>aB (bW rfl rfl) rfl<|qkAsg rfl<|dtN ?_
   exact cF (r46) () h SF .nil (aA.refl _ _)
  have h:=IE hp45 h
  refine gdSkip rfl<|gdSkip rfl<|gdSkip rfl<|gdSkip rfl<|gdSkip rfl<|aB (cA rfl rfl) rfl<|qkAsg rfl<|dtN ?_
  exact cF (false) () h SF .nil (aA.refl _ _)
 clear h
 intro a40 b41 h
 unfold iU at h
 refine aS ?_
 cases h
 exact lP rfl
end Go.Proofs.YtigggfnchamobaaGreatDoor
end
section
namespace Go.Proofs.YtigggfnchamobaaGreatDoor
open Go Go.Sx
theorem YK:∀x,x<pY.length->AD (at' pY (x:Int)) ∧ -100000<=(at' pY (x:Int)).2.2.1∧(at' pY (x:Int)).2.2.1<=(at' pY (x:Int)).2.2.2.1:=by
 intro x hx
 refine⟨NL x hx,?_⟩
 obtain rfl:x=0:=by simp[pY]at hx;exact hx
 exact⟨by decide,by decide⟩
theorem IP (x:Lr) (raw:List Int) (p2:Int) (wishes:List Int) (h0:0<=p2) (h1:p2<4294967296):mO 1000 x raw p2 wishes=some true:=by
 obtain⟨d,rfl⟩:∃d:Nat,p2=d:=⟨p2.toNat,by omega⟩
 have hd:d<4294967296:=by omega
 obtain⟨g,hg,hVM,hn9⟩:=VE x 9 (by omega) (by omega)
 have hV:VG g:=hVM.vg
 have h24:=hV.n24
 obtain⟨c0,hc,hc0⟩:=Oy hV pY raw (by decide) YK
 obtain⟨ws,hws,hwl,hwb⟩:=Ph wishes (n:=2*g.2.length+1) (by omega)
 obtain⟨lv,hlv,hlv32,hlvb⟩:=Qy hd
 unfold mO
 rw[show jY 1000 (x.1,x.2.1,x.2.2.1,x.2.2.2.1,x.2.2.2.2.1,x.2.2.2.2.2) 9=some g from hg,bH rfl,Xe,bH rfl,show lM 1000 (g.1,g.2) pY raw=some c0 from hc,bH rfl,bH (show oS 1000=some Co from rfl)]
 rw[bH (RN 1000)]
 refine Te fun z hz=> ?_
 have hz:z.map xN=FP RM:=hz
 let p:Eu:=(ByteArray.mk #[105,110,100,101,112,101,110,100,101,110,116],pY,z)
 have hw2:wI .i64 (2*(List.length g.2:Int))=((2*g.2.length:Nat):Int):=by
  rw[wr (by omega) (by omega)];omega
 rw[hw2,eW (by omega),bH hws]
 obtain⟨k,c,ch,cnt,ens,hrun,hI,hsh,hk,hchl,hel,hea,hend⟩:=OF (p:=p) hV (YI hV) hz UJ (kind:=2) (by omega) (by omega) hc0 hlv32 (ws:=ws) (by omega) hwb
  (fun k c ch _=>Pw g lv c0 k c ch) ⟨hc0,fun v _=> .inl ⟨by simp[wK],rfl⟩,by omega,fun t h=>by cases h⟩
  (fun k c ch cnt t cnt' err hk hsh hI hne ht0 hsub hind _ _=>YB hV hI ht0 hsub (hind rfl))
 have hf:qI 1000 p (g.1,g.2) 2 c0 (d:Int) ws=some ((Cn ch,ens,c,cnt),0):=by
  unfold qI
  rw[hlv,bH (show jC 1000 _ _ 2 c0 (lv:Int) ws=_ from hrun)]
 refine(bH hf).trans ?_
 unfold lZ
 dsimp only
 rw[if_neg (by decide),decide_eq_false (show¬(c.length:Int)≠(g.2.length:Int) by rw[hsh.len];simp)]
 unfold iS
 dsimp only
 have hen0:BG (dL p g) RM lv c=0:=by
  rcases hend with e|e
  ·have:=NN (f:=wK ch) (b:=2) (n:=g.2.length) fun v hv=>hI.two hv
   have:=hI.sum
   omega
  ·exact e
 rw[if_neg (by decide),bH (show pP 1000 _ (g.2.length:Int)=_ from Rs hI.sets (by omega) h24 ens c cnt)]
 have hcnt:∀v,v<g.2.length->at' ((List.range g.2.length).map fun v=>((wK ch v:Nat):Int)) (v:Int)=((wK ch v:Nat):Int):=fun v hv=>yZ _ hv
 have hll:((List.range g.2.length).map fun v=>((wK ch v:Nat):Int)).length=g.2.length:=by simp
 refine dW (step:=e_ 1000 (d:Int) g c0 _ _) (K:=some true) g.2.length (fun v=>(v:Int)) (fun v ag hv=> ?_) (fun ag=> ?_) 1000 (by omega)
 ·have ho:=hI.two hv
  have hbit:=Qe 1000 hd (show v<32 by omega)
  have hrow:(at' c (v:Int)).length=1:=hI.r.row v hv
  have hrow0:(at' c0 (v:Int)).length=1:=hc0.row v hv
  have hl0:=hc0.len
  have hl1:=hsh.len
  have dead:d.testBit v=true->wK ch v=0∧Dz c v=Dz c0 v:=fun hdv=>by
   rcases hI.st v hv with q|⟨hl,_⟩
   ·exact q
   ·rw[hlvb v (by omega),hdv]at hl;cases hl
  unfold e_ cL
  dsimp only
  rw[if_pos (by omega),dK (by rw[hll];omega),hcnt v hv,if_neg (by omega),dK (by rw[hll];omega),eW (by omega)]
  cases hdv:d.testBit v with
  |false=>
   rw[hdv]at hbit
   split
   ·rw[bH hbit,if_neg (by decide),bH hbit,if_neg (by decide)];rfl
   ·rw[bH hbit,if_neg (by decide)];rfl
  |true=>
   rw[hdv]at hbit
   obtain⟨e0,e1⟩:=dead hdv
   rw[if_neg (by omega),bH hbit,if_pos rfl,dK (by omega),if_neg (by rw[hrow];simp),dK (by omega),dK (by omega),dK (by omega),dK (by omega),decide_eq_false (show¬at' (at' c (v:Int)) 0≠at' (at' c0 (v:Int)) 0 from fun q=>q e1)]
   rfl
 ·unfold e_
  rw[if_neg (by omega)]
  unfold l_ iU
  rw[bH (show yF 1000=some true from rfl),if_pos rfl]
  have hcf:=Yw.1 hI.r
  have hind:MD g c d:=by
   refine⟨hV,hcf,fun v hv hdv=> ?_⟩
   have hb:(BG (dL p g) RM lv c).testBit v=false:=by rw[hen0];simp
   have hnot:¬0<=rD (dL p g) RM c v:=fun q=>by
    have:(BG (dL p g) RM lv c).testBit v=true:=(EL (dL p g) RM lv c v).2 ⟨hv,q,by rw[hlvb v (by omega),hdv];rfl⟩
    rw[this]at hb;cases hb
   have key:=Pa hnot
   have hm:∀u,u<g.2.length->(wO c u=true↔Dz c u≠0):=fun u hu=>by
    have:=Vi hcf hu
    unfold wO
    rw[decide_eq_true_eq]
    show at' (at' c (u:Int)) 0=1↔at' (at' c (u:Int)) 0≠0
    omega
   have hmf:wO c v=false↔Dz c v=0:=by
    have:=hm v hv
    cases hx:wO c v with
    |true=>rw[hx]at this;exact iff_of_false (by decide) (this.1 rfl)
    |false=>rw[hx]at this;exact iff_of_true rfl (Decidable.not_not.1 fun q=>by have:=this.2 q;cases this)
   rw[hmf,<-key]
   constructor
   ·rintro⟨i,hi,h⟩
    obtain⟨u,hu,hue,_⟩:=hV.port hv hi
    refine⟨i,hi,?_⟩
    rw[Bu hue]
    rw[hue,Int.toNat_natCast]at h
    exact(hm u hu).1 h
   ·rintro⟨i,hi,h⟩
    obtain⟨u,hu,hue,_⟩:=hV.port hv hi
    refine⟨i,hi,?_⟩
    rw[hue,Int.toNat_natCast]
    rw[Bu hue]at h
    exact(hm u hu).2 h
  rw[bH (show f_ 1000 _ c (d:Int)=_ from(Gd g c hd).1 hind)]
end Go.Proofs.YtigggfnchamobaaGreatDoor
end
section
namespace Go.Sx
open Go.RowKit Go.ChangeShapes Go.WideShapes Go.ChangeAt Go.Proofs Go.Joins Go.Deep
section
variable {H:Type} {enc:TypeId×Value->H} {P:Program} {w:World} {base:Nat} {spare:Nat->Bool} {held:Bool}
theorem GT {α:Type} (l:List α) (d:α):l=(List.range l.length).map fun i=>l.getD i d:=by
 apply List.ext_getElem?
 intro i
 by_cases h:i<l.length
 ·simp[h]
 ·simp[h]
theorem RE {r:Reach} {b0:Nat} {t:TypeId} {fs:Array Field} {v:Value} {d:DataW H} {p:List MemPlace} (hs:P.underlying t=some (.struct fs)) (hone:oneCellFields P fs=true) (hC:P.cellsOf t=fs.size)
  (hv:Value.okWide P w r b0 t v) (h:DataW.Trod enc P w base spare held t v d p):
  ∃(V:Nat->Value) (Y:Nat->DataW H×List MemPlace) (n:Nat),v = .agg ((List.range fs.size).map V).toArray∧∀(i:Nat) (f:Field),fs[i]? = some f->DataW.trod enc P w base spare held n f.type [V i]=some (Y i):=by
 obtain⟨cs,rfl,hsz⟩:=okWide_struct hs hv
 obtain⟨fuel,hf⟩:=h
 obtain⟨xs,n,_,_,_,hlen,hg⟩:=DataW.trod_struct hs hf
 refine⟨fun i=>cs.toList.getD i undef,fun i=>xs.getD i (.nil,[]),n,?_,fun i f hi=> ?_⟩
 ·congr 1
  apply Array.toList_inj.1
  show cs.toList=(List.range fs.size).map fun i=>cs.toList.getD i undef
  have h2:fs.size=cs.toList.length:=by rw[<-hC,<-hsz];rfl
  rw[h2]
  exact GT cs.toList undef
 ·have hlt:i<fs.size:=(Array.getElem?_eq_some_iff.1 hi).1
  obtain⟨o,k⟩:=hone_of hone i f hi
  have g:=hg i f hi
  have hcl:(Value.cells (.agg cs)).toList=cs.toList:=rfl
  have hl:i<cs.toList.length:=by rw[Array.length_toList];omega
  rw[o,k,hcl,take1_drop _ _ undef hl]at g
  rw[g]
  have hx:i<xs.length:=by omega
  simp[hx]
theorem Rh {k:IntKind} {e:TypeId} (he:P.underlying e=some (.int k)) {n:Nat} {v:Value} {x:DataW H×List MemPlace} (h:DataW.trod enc P w base spare held n e [v]=some x):∃y:Int,v = .int k y:=by
 obtain⟨y,hy,_,_⟩:=DataW.trod_int he h
 exact⟨y,by simpa using hy⟩
theorem HD {e:TypeId} (he:P.underlying e=some .bool) {n:Nat} {v:Value} {x:DataW H×List MemPlace} (h:DataW.trod enc P w base spare held n e [v]=some x):∃y:Bool,v = .bool y:=by
 obtain⟨y,hy,_⟩:=DataW.trod_bool he h
 exact⟨y,by simpa using hy⟩
theorem SC {n:Int} (h:(Lit.int .u32 n).wf=true):0<=n∧n<4294967296:=by
 simp only[Lit.wf,Bool.and_eq_true,decide_eq_true_eq]at h
 have e1:IntKind.u32.min=0:=by decide
 have e2:IntKind.u32.max=4294967295:=by decide
 omega
end
end Go.Sx
end
section
set_option maxRecDepth 100000
namespace Go.Sx
open Go.RowKit Go.ChangeShapes Go.WideShapes Go.ChangeAt Go.Proofs Go.Joins
theorem LS {P:Program} {W:World} {n:String} {b m t t':Nat} {k:IntKind} {xs:List Int} (h:laidMet P [(n,.agg (xs.map fun x=> .lit (.int k x)))] W) (hg:P.globalNamed n=some b)
  (ht:(P.globals[b]?).map (·.type)=some t) (hu:P.underlying t=some (.array m t')) (hu':P.underlying t'=some (.int k)) (hc:P.cellsOf t'=1) (hcm:P.cellsOf t=m) (hm:0<m):(Gb b (cellsOf (dJ.int k) xs)).p W (fun _=>True):=by
 obtain⟨ps,⟨g,t2,cs,fuel,p,q,e1,e2,e3,e4,e5,e6⟩,hnd,hcell⟩:=h
 rw[hg]at e1;cases e1
 rw[ht]at e2;cases e2
 refine⟨trivial,?_⟩
 obtain⟨ys,ml,_,e7,hl,hyl,hf⟩:=DataW.trod_array hu e4
 simp only[Prod.mk.injEq,DataW.agg.injEq]at e7
 have hlen:xs.length=m:=by rw[<-hyl];simpa using congrArg List.length e7.1
 have hcl:cs.size=m:=by rw[<-hcm,<-hl];simp
 have hcs:cs.toList=cellsOf (dJ.int k) xs:=by
  refine List.ext_getElem? fun i=> ?_
  by_cases hi:i<m
  ·have h1:=hf i hi
   rw[hc,Nat.mul_one]at h1
   have hx:xs[i]? = some (xs[i]'(by omega)):=List.getElem?_eq_getElem _
   have h2:=tC (dJ.int k) xs i _ hx 0 _ rfl
   rw[show i*(dJ.int k).sz+0=i from Nat.mul_one i]at h2
   rw[h2]
   have hy:ys[i]? = some (ys[i]'(by omega)):=List.getElem?_eq_getElem _
   rw[hy]at h1
   obtain⟨z,hz,hz2,_⟩:=DataW.trod_int hu' h1
   have hc0:cs.toList[i]? = some (.int k z):=by
    have:=congrArg (·[0]?) hz
    simpa [List.getElem?_take,List.getElem?_drop]using this
   rw[hc0]
   have h3:=congrArg (·[i]?) e7.1
   simp only[List.getElem?_map,hx,hy,Option.map_some,Option.some.injEq]at h3
   rw[hz2]at h3
   have h4:xs[i]=z:=by simpa using h3
   rw[h4]
  ·rw[List.getElem?_eq_none (by simp;omega),List.getElem?_eq_none (by rw[dH,hlen];show m*1<=i;omega)]
 have hmem:MemPlace.cell b 0∈ps:=by
  rw[e6]
  refine List.mem_append_left _ (List.mem_append_left _ ?_)
  exact List.mem_map.2 ⟨0,by simp;omega,rfl⟩
 obtain⟨⟨c,T,hb⟩,_⟩:=hcell b 0 hmem
 refine⟨T,?_⟩
 have h5:c=cs:=by
  have h6:(W.var? P n)=some c:=by unfold World.var?;rw[hg];simp[hb]
  rw[h6]at e3;exact Option.some.inj e3
 rw[hb,h5,<-hcs]
theorem Kg {H:Type} {enc:TypeId×Value->H} {os:Os} (ld:List (String×DataW Unit)) (hpl:(ld.all fun x=>x.2.handleName?.isNone)=true) (started:os.Started) {f:FuncId} {fn:Func} {s:ChangeSpec} {r:Bool} (hfn:Tryz.prog.funcs[f]? = some fn) (noInit:Tryz.prog.inits.idxOf? f=none)
  (hread:(fn.params.toList.all fun t=>Tryz.prog.readableRec t&&decide (t<Tryz.prog.types.size))=true) (hres:fn.resultTypes = #[4]) (hvars:s.vars=[])
  (hspec:∀ds:List (DataW H),ds.length=fn.params.toList.length->s.fn H ds={results:=[.lit (.bool true)],args:=ds})
  (witness:∃(w:World) (tape:Tape) (i:Input),w.os=os∧(w.forCall tape i).Shaped Tryz.prog∧i.vars=[]∧Input.okWide Tryz.prog (w.forCall tape i) .any w.heap.size f i∧
   ((s.pre enc Tryz.prog fn [] false (w.forCall tape i).memory i.args∧laidMetH Tryz.prog ld (w.forCall tape i).memory)∧sizedMet enc Tryz.prog fn (OpenSpec.ofChange s) false (w.forCall tape i).memory i.args)∧({}:Assume).holds Tryz.prog (lone (Frame.enter Tryz.prog f i.args .normal) [] (w.forCall tape i)))
  (main:∀(W:World) (base:Nat) (args:Array Value) (ds:List (DataW H)) (p:List MemPlace),laidMetH Tryz.prog ld W->(∀(j:Nat) t v,fn.params[j]? = some t->args[j]? = some v->Value.okWide Tryz.prog W .any base t v)->
   DataW.TrodAll enc Tryz.prog W 0 (fun _=>true) true fn.params.toList args.toList ds p->Calls Tryz.prog f args W fun e W'=>e = .returned (.bool true)∧Ic W W'):
  ReturnsInHanded {} Go.Proofs.YtigggfnchamobaaGreatDoor.Tryz.pinned.checked os f .any (fun w args=>(s.pre enc Tryz.prog fn [] false w args∧laidMetH Tryz.prog ld w)∧sizedMet enc Tryz.prog fn (OpenSpec.ofChange s) false w args) (s.post enc Tryz.prog fn false r false false):=by
 refine returnsInHanded_of_change_and (C:=Go.Proofs.YtigggfnchamobaaGreatDoor.Tryz.pinned.checked) (X:=fun w _=>laidMetH Tryz.prog ld w) (fun _ _ _ hh h=>by rw[MakeChecks.laidMetH_plain _ _ _ hpl]at h ⊢;exact h.of_heap hh) aaG started noInit hfn witness ?_
 intro W base args ds gs before hval hW _ _ hL _
 have hlt:=hW.lt
 have hW':=hW
 obtain⟨p,q,hA,hV,rfl,_,_⟩:=hW
 rw[hvars]at hV
 obtain⟨rfl,rfl⟩:=trodVars_none hV
 refine(main W base args ds p hL hval hA).mono ?_
 rintro e W' ⟨rfl,hb⟩
 refine⟨_,rfl,?_⟩
 have hlen:ds.length=fn.params.toList.length:=by
  have:∀(ts:List TypeId) (vs:List Value) (ds:List (DataW H)) (p:List MemPlace),DataW.TrodAll enc Tryz.prog W 0 (fun _=>true) true ts vs ds p->ds.length=ts.length:=by
   intro ts
   induction ts with
   |nil=>intro vs ds p h;cases vs<;>cases ds<;>first|rfl|exact h.elim
   | cons t ts ih =>
    intro vs ds p h
    cases vs with
    |nil=>exact h.elim
    |cons v vs=>
     cases ds with
     |nil=>exact h.elim
     |cons d ds=>obtain⟨_,_,_,h2,_⟩:=h;simp[ih vs ds _ h2]
  exact this _ _ _ _ hA
 have hs:s.fn H (ds++[])={results:=[.lit (.bool true)],args:=ds}:=by rw[List.append_nil];exact hspec ds hlen
 refine⟨ds,[],p++[],[],p,[],hW',?_,?_,?_,hb.frame _,fun h=>by cases h⟩
 ·rw[hs,hres]
  exact trodAll_mk1 (shut_bool Tryz.underlying4 true)
 ·rw[hs]
  exact BX Yn hb _ _ _ _ hread hA (fun x hx=>hlt x (List.mem_append_left _ hx))
 ·rw[hs,hvars];exact rfl
theorem OP {P:Program} {n:String} {k:IntKind} {xs:List Int} {W:World} (h:laidMetH P [(n,.agg (xs.map fun x=> .lit (.int k x)))] W):laidMet P [(n,.agg (xs.map fun x=> .lit (.int k x)))] W:=by
 rw[MakeChecks.laidMetH_plain _ _ _ (by rfl)]at h;exact h
end Go.Sx
end
