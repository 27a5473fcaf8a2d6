/- Models and proofs. Conditions: none. -/
import Derived.Test.YtjlbcgddhnjcjaaGreatDoorZCMe5
import Derived.Test.YtjlbcgddhnjcjaaGreatDoorZCMe7
import Derived.Test.YtjlbcgddhnjcjaaGreatDoorZCMe6
import Derived.Test.YtjlbcgddhnjcjaaGreatDoorZCMe2
set_option linter.unusedVariables false
set_option linter.unusedSimpArgs false
set_option maxHeartbeats 4000000
set_option maxRecDepth 20000
section
namespace Go.Proofs.YtjlbcgddhnjcjaaGreatDoor
open Go.Sx
def zP  (a35:CN):Option AS:=
 some (((a35.2.2.2.2.2.2.1,a35.2.2.2.2.2.2.2.1,a35.2.2.2.2.2.2.2.2,((a35.1,a35.2.1,a35.2.2.1,a35.2.2.2.1,a35.2.2.2.2.1)))),a35.2.2.2.2.2.1)
def wB  (a57:aL×aL×aY×Int×Int×Int×Int×Int×Int):Option AS:=
 zP  (a57.2.2.2.1,a57.2.2.2.2.1,a57.2.2.2.2.2.1,a57.2.2.2.2.2.2.1,a57.2.2.2.2.2.2.2.1,a57.2.2.2.2.2.2.2.2,a57.1,a57.2.1,a57.2.2.1)
def sD  (a94:aL×Int×Int×Int×Int×Int×aY×aL):Option AS:=
 wB  (a94.2.2.2.2.2.2.2,a94.1,a94.2.2.2.2.2.2.1,a94.2.1,a94.2.2.1,a94.2.2.2.1,a94.2.2.2.2.1,a94.2.2.2.2.2.1,(0:Int))
def zQ (U:Nat) (p0:Ak) (p1:cW) (p2:Int) (a20:Int×aL×eV×Int×aY) (a117:Int×aL×Int×Int×Int×Int×Int×Int×aY×aL) (ag116:(Int×aL×Int×Int×Int×Int×Int×Int×aY×aL)->Option AS) (a122:Int):Option AS:=
 if¬(a117.1≠(0:Int))then(sD  (a117.2.1,a117.2.2.2.1,a117.2.2.2.2.1,a117.2.2.2.2.2.1,a117.2.2.2.2.2.2.1,a117.2.2.2.2.2.2.2.1,a117.2.2.2.2.2.2.2.2.1,a117.2.2.2.2.2.2.2.2.2))else(Option.bind (eJ U a20.2.1 p2 a117.1 a122) fun r125=>(if(!r125)=true then(wB  (([]:aL),([]:aL),([]:aY),(0:Int),(0:Int),(0:Int),(0:Int),(0:Int),(11:Int)))else(Option.bind (gS U ((((p0.1,p0.2.1,p0.2.2)),((((p0.1,p0.2.1,p0.2.2)),((p1.1,p1.2)),a20.2.2.2.1,a20.2.2.2.2)),a20.2.2.1)) a117.2.2.2.2.2.2.2.2.1 a122) fun r129=>(Option.bind (dC U ((((p0.1,p0.2.1,p0.2.2)),((((p0.1,p0.2.1,p0.2.2)),((p1.1,p1.2)),a20.2.2.2.1,a20.2.2.2.2)),a20.2.2.1)) r129) fun r132=>(Option.bind (pP U ((a117.2.2.2.1,a117.2.2.2.2.1,a117.2.2.2.2.2.1,a117.2.2.2.2.2.2.1,a117.2.2.2.2.2.2.2.1)) a122 (cY .u32 r132 a20.1)) fun r135=>(Option.bind (rD U r129 (cY .u32 r132 a20.1) ((r135.1.1,r135.1.2.1,r135.1.2.2.1,r135.1.2.2.2.1,r135.1.2.2.2.2))) fun r138=>(ck ((List.length a117.2.2.2.2.2.2.2.2.2:Int)+(List.length ([a122]):Int)<=1099511627) (ck ((List.length a117.2.1:Int)+(List.length ([(cY .u32 r132 a20.1)]):Int)<=1099511627) (ag116 ((cY .u32 r132 a20.1),(a117.2.1++([(cY .u32 r132 a20.1)])),(wI .i64 (a117.2.2.1+(1:Int))),r135.1.1,r135.1.2.1,r135.1.2.2.1,r135.1.2.2.2.1,r135.1.2.2.2.2,r129,(a117.2.2.2.2.2.2.2.2.2++[a122])))))))))))
def sF (U:Nat) (p0:Ak) (p1:cW) (p2:Int) (p4:aL) (a20:Int×aL×eV×Int×aY) (a117:Int×aL×Int×Int×Int×Int×Int×Int×aY×aL) (ag116:(Int×aL×Int×Int×Int×Int×Int×Int×aY×aL)->Option AS):Option AS:=
 if a117.2.2.1<(List.length p4:Int)then(ck (0<=a117.2.2.1∧a117.2.2.1<(List.length p4:Int)) (Option.bind (cV U a20.2.1 p2 a117.1 (at' p4 a117.2.2.1)) fun r150=>(zQ U p0 p1 p2 a20 a117 ag116 (r150))))else(sD  (a117.2.1,a117.2.2.2.1,a117.2.2.2.2.1,a117.2.2.2.2.2.1,a117.2.2.2.2.2.2.1,a117.2.2.2.2.2.2.2.1,a117.2.2.2.2.2.2.2.2.1,a117.2.2.2.2.2.2.2.2.2))
def zO (U:Nat) (p0:Ak) (p1:cW) (p2:Int) (p3:aY) (p4:aL) (a20:Int×aL×eV×Int×aY):Option AS:=
 Option.bind (sB U p3) fun r65=>(Option.bind (dC U ((((p0.1,p0.2.1,p0.2.2)),((((p0.1,p0.2.1,p0.2.2)),((p1.1,p1.2)),a20.2.2.2.1,a20.2.2.2.2)),a20.2.2.1)) r65) fun r68=>(Option.bind (sX U (cY .u32 r68 a20.1)) fun r71=>(Option.bind (rD U r65 (cY .u32 r68 a20.1) ((r71.1,r71.2.1,r71.2.2.1,r71.2.2.2.1,r71.2.2.2.2))) fun r75=>(ck ((List.length ([]:aL):Int)+(List.length ([(cY .u32 r68 a20.1)]):Int)<=1099511627) (bE (sF U p0 p1 p2 p4 a20) U ((cY .u32 r68 a20.1),(([]:aL)++([(cY .u32 r68 a20.1)])),(0:Int),r71.1,r71.2.1,r71.2.2.1,r71.2.2.2.1,r71.2.2.2.2,r65,([]:aL)))))))
def wC (U:Nat) (p0:Ak) (p1:cW) (p2:Int) (p3:aY) (p4:aL) (a165:eV×Int×aY):Option AS:=
 Option.bind (kG U ((p1.1,p1.2))) fun r167=>(Option.bind (qN U ((p1.1,p1.2))) fun r170=>(zO U p0 p1 p2 p3 p4 (r170,r167,a165.1,a165.2.1,a165.2.2)))
def wD (U:Nat) (p0:Ak) (p1:cW) (p2:Int) (p3:aY) (p4:aL) (a182:Int×aY):Option AS:=
 Option.bind (lL U ((p0.1,p0.2.1,p0.2.2)) ((p1.1,p1.2))) fun r184=>(wC U p0 p1 p2 p3 p4 (r184,a182.1,a182.2))
def sE (U:Nat) (p0:Ak) (p1:cW) (p2:Int) (p3:aY) (p4:aL) (a198:Int×aY):Option AS:=
 wD U p0 p1 p2 p3 p4 (a198.1,a198.2)
def wE (p1:cW) (a205:Int×Int×aY) (ag204:(Int×Int×aY)->Option AS) (a211:aY):Option AS:=
 ag204 ((wI .i64 (a205.1+(1:Int))),(max a205.2.1 (at' p1.1 a205.1)),a211)
def pQ (U:Nat) (p1:cW) (a205:Int×Int×aY) (ag204:(Int×Int×aY)->Option AS) (a219:Int×aY) (ag218:(Int×aY)->Option AS):Option AS:=
 if a219.1<(List.length (at' p1.2 a205.1):Int)then(ck (0<=a219.1∧a219.1<(List.length (at' p1.2 a205.1):Int)) (ck (0<=a205.1∧a205.1<(List.length a219.2:Int)) (Option.bind (qO U ((p1.1,p1.2)) ((at' (at' p1.2 a205.1) a219.1).1) a205.1) fun r228=>(ck ((List.length (at' a219.2 a205.1):Int)+(List.length ([r228]):Int)<=1099511627) (ck (0<=a205.1∧a205.1<(List.length (List.set a219.2 (Int.toNat a205.1) ((at' a219.2 a205.1)++[r228])):Int)) (ag218 ((wI .i64 (a219.1+(1:Int))),(List.set a219.2 (Int.toNat a205.1) ((at' a219.2 a205.1)++[r228])))))))))else(wE p1 a205 ag204 (a219.2))
def kU (U:Nat) (p0:Ak) (p1:cW) (p2:Int) (p3:aY) (p4:aL) (a205:Int×Int×aY) (ag204:(Int×Int×aY)->Option AS):Option AS:=
 if a205.1<(List.length p1.2:Int)then(ck (0<=a205.1∧a205.1<(List.length p1.2:Int)) (ck (0<=a205.1∧a205.1<(List.length p1.1:Int)) (bE (pQ U p1 a205 ag204) U ((0:Int),a205.2.2))))else(sE U p0 p1 p2 p3 p4 (a205.2.1,a205.2.2))
def kS (U:Nat) (p0:Ak) (p1:cW) (p2:Int) (p3:aY) (p4:aL):Option AS:=
 Option.bind (wQ U ((p0.1,p0.2.1,p0.2.2)) ((p1.1,p1.2)) p2 p3 (List.length p4:Int)) fun r4=>(if r4≠(0:Int)then(some (((([]:aL),([]:aL),([]:aY),(((0:Int),(0:Int),(0:Int),(0:Int),(0:Int))))),r4))else(ck (0<=(List.length p1.2:Int)∧(List.length p1.2:Int)<=1099511627) (bE (kU U p0 p1 p2 p3 p4) U ((0:Int),(0:Int),(List.replicate (Int.toNat (List.length p1.2:Int)) ([]:aL))))))
theorem C_:aQ Tryz.prog 30:=Tryz.call30
theorem oU (U:Nat) {p0:Ak} {p1:cW} {p2:Int} {p3:aY} {p4:aL} (v0:Value)  (v1:Value)  (v2:Value)  (v3:Value)  (z4:mB)  (v5:Value)  (z6:pW)  (v7:Value) (r:(aL×aL×aY×(Int×Int×Int×Int×Int))×Int) (h:kS U p0 p1 p2 p3 p4=some r):
  aS Tryz.prog 30 #[Value.agg #[vS (p0.1),v0,v1],Value.agg #[v2,v3],vI (p2),v5,v7] [Sl aH v0 p0.2.1,Sl aE v1 p0.2.2,PF (Value.agg #[vS p0.1,v0,v1]),Sl bD v2 p1.1,S2 a_ v3 z4 p1.2,S2 bD v5 z6 p3,Sl tJ v7 p4,Gb 0 (cellsOf BV pV)] (fun x:Value×Value×Value×List Value=>Value.tuple #[Value.agg #[x.1,x.2.1,x.2.2.1,vI (r.1.2.2.2.1),vI (r.1.2.2.2.2.1),vI (r.1.2.2.2.2.2.1),vI (r.1.2.2.2.2.2.2.1),vU (r.1.2.2.2.2.2.2.2)],vI (r.2)]) (fun x l=>Ar g_ x.1 r.1.1::Ar g_ x.2.1 r.1.2.1::Ar cR.raw x.2.2.1 x.2.2.2::gZ bO x.2.2.2 r.1.2.2.1::l) (fun _ l=>l):=by
 refine aS.of Tryz.func30 rfl Tryz.ntmps30 rfl fun c=>?_
 refine sqR<|aF (aJ.box (cs:=[vS (p0.1),v0,v1]) rfl rfl) rfl fun b1=>aF (aJ.box (cs:=[v2,v3]) rfl rfl) rfl fun b2=>aF (aJ.alloc (cs:=CQ) rfl rfl) rfl fun b3=>qkAsg rfl<|dtN<|aG<|sqR<|qkLdA 2 rfl<|qkLdA 1 rfl<|qkMove rfl<|qkMove rfl<|qkMove rfl<|qkLen (aC.fact 6 rfl) rfl<|bnE h fun r4 w5 h=>aF (aJ.callQ XM (Mj U v0 v1 v2 v3 z4 v5 z6 r4 w5) rfl (lH [0,1,2,3,4,5] rfl)) rfl fun x6=>qkAsg rfl<|dtN<|sqR<|qkMove rfl<|qkNeq rfl<|dtN ?_
 refine eF h rfl (fun h=>?_) fun h=>?_
 ·refine sqR ?_
  refine aB (Gy (r:=Value.agg #[kT,kT,kT,vI (0:Int),vI (0:Int),vI (0:Int),vI (0:Int),vU (0:Int)]) (by intro w;simp[Instr.build,Instr.fill,eG,dR,cT,eH,eI,dU,fP])) rfl ?_
  refine qkMove rfl<|bK 0 (vs:=CQ) rfl rfl rfl rfl rfl rfl<|qkAsg rfl<|dtN<|aR<|aI<|iR (iF g_)<|iR (iF g_)<|iR (iF cR.raw) (iR (tR bO) ?_)
  cases h
  exact jJ ((kT),(kT),(kT),([]:f_)) rfl rfl (RV.cell 4 rfl rfl rfl rfl) (RV.tmp rfl) (aV.ix [2,3,1,0] rfl rfl) aD.nil
 refine cJ<|sqR<|qkLdA 2 rfl<|qkLdA 1 rfl<|qkMove rfl<|CV (A:=Int×aL×eV×Int×aY) (B:=Nat×Value×Nat×Value×List Value×Value×List Value) (vs:=[Value.agg #[vS (p0.1),v0,v1],Value.agg #[v2,v3],vI (p2),Value.func (.func 61) #[] #[]]) (fun a20=>zO U p0 p1 p2 p3 p4 a20=some r) (fun a20 b21=>Value.agg #[vP b21.1,b21.2.1,vI (p2),vU (a20.1),Value.func (.func 61) #[] #[]]) (fun a20 b21=>[Ar g_ b21.2.1 a20.2.1,bS b21.1 [vS (p0.1),v0,v1,vP b21.2.2.1,b21.2.2.2.1] 170,Ar cR.raw b21.2.2.2.1 b21.2.2.2.2.1,gZ bM b21.2.2.2.2.1 a20.2.2.1,bS b21.2.2.1 [vS (p0.1),v0,v1,v2,v3,vI (a20.2.2.2.1),b21.2.2.2.2.2.1] 218,Ar cR.raw b21.2.2.2.2.2.1 b21.2.2.2.2.2.2,gZ bO b21.2.2.2.2.2.2 a20.2.2.2.2,bS b3 CQ 63]) (fun a20 b21=>[Sl aH v0 p0.2.1,Sl aE v1 p0.2.2,PF (Value.agg #[vS p0.1,v0,v1]),Sl bD v2 p1.1,S2 a_ v3 z4 p1.2,S2 bD v5 z6 p3,Sl tJ v7 p4,Gb 0 (cellsOf BV pV)]) (xE.fn (show aQ Tryz.prog 60 from Tryz.call60) rfl) Tryz.func60 rfl Tryz.ntmps60 rfl rfl ?_ ?_
 ·refine sqR<|aF (aJ.box (cs:=[vS (p0.1),v0,v1]) rfl rfl) rfl fun b153=>aF (aJ.box (cs:=[v2,v3]) rfl rfl) rfl fun b154=>aF (aJ.alloc (cs:=YX) rfl rfl) rfl fun b155=>dtN<|aG ?_
  refine JR.start [0,0,3,0,15,0,0,95,0,511,1023] 9 mixedOrders (by decide +kernel) ?_
  refine JR.open (by exact rfl) ?_
  refine jkLdA 2 rfl<|jkLdA 1 rfl<|Od (A:=eV×Int×aY) (B:=Nat×Nat×Value×List Value×Value×List Value) (vs:=[Value.agg #[vS (p0.1),v0,v1],Value.agg #[v2,v3]]) (fun a165=>wC U p0 p1 p2 p3 p4 a165=some r) (fun a165 b166=>vP b166.1) (fun a165 b166=>[bS b166.1 [vS (p0.1),v0,v1,vP b166.2.1,b166.2.2.1] 170,Ar cR.raw b166.2.2.1 b166.2.2.2.1,gZ bM b166.2.2.2.1 a165.1,bS b166.2.1 [vS (p0.1),v0,v1,v2,v3,vI (a165.2.1),b166.2.2.2.2.1] 218,Ar cR.raw b166.2.2.2.2.1 b166.2.2.2.2.2,gZ bO b166.2.2.2.2.2 a165.2.2,bS b155 YX 107,bS b154 [v2,v3] 29,bS b153 [vS (p0.1),v0,v1] 36,bS b3 CQ 63]) (fun a165 b166=>[Sl aH v0 p0.2.1,Sl aE v1 p0.2.2,PF (Value.agg #[vS p0.1,v0,v1]),Sl bD v2 p1.1,S2 a_ v3 z4 p1.2,S2 bD v5 z6 p3,Sl tJ v7 p4,Gb 0 (cellsOf BV pV)]) rfl rfl rfl (xE.fn (show aQ Tryz.prog 79 from Tryz.call79) rfl) Tryz.func79 rfl Tryz.ntmps79 rfl rfl (fun _ _=>(m_ [] rfl)) ?_ ?_
  ·refine sqR<|aF (aJ.box (cs:=[vS (p0.1),v0,v1]) rfl rfl) rfl fun b175=>aF (aJ.box (cs:=[v2,v3]) rfl rfl) rfl fun b176=>qkAsg rfl<|dtN<|aG ?_
   refine JR.start [0,0,0,6,0,0,62,127,255,511] 7 mixedOrders (by decide +kernel) ?_
   refine JR.open (by exact rfl) ?_
   refine jkLdA 1 rfl<|jkLdA 1 rfl<|jkLdA 0 rfl<|Od (A:=Int×aY) (B:=Nat×Value×List Value) (vs:=[Value.agg #[vS (p0.1),v0,v1],Value.agg #[v2,v3]]) (fun a182=>wD U p0 p1 p2 p3 p4 a182=some r) (fun a182 b183=>vP b183.1) (fun a182 b183=>[bS b183.1 [vS (p0.1),v0,v1,v2,v3,vI (a182.1),b183.2.1] 218,Ar cR.raw b183.2.1 b183.2.2,gZ bO b183.2.2 a182.2,bS b176 [v2,v3] 29,bS b175 [vS (p0.1),v0,v1] 36,bS b155 YX 107,bS b154 [v2,v3] 29,bS b153 [vS (p0.1),v0,v1] 36,bS b3 CQ 63]) (fun a182 b183=>[Sl aH v0 p0.2.1,Sl aE v1 p0.2.2,PF (Value.agg #[vS p0.1,v0,v1]),Sl bD v2 p1.1,S2 a_ v3 z4 p1.2,S2 bD v5 z6 p3,Sl tJ v7 p4,Gb 0 (cellsOf BV pV)]) rfl rfl rfl (xE.fn (show aQ Tryz.prog 113 from Tryz.call113) rfl) Tryz.func113 rfl Tryz.ntmps113 rfl rfl (fun _ _=>(m_ [([4],[])] rfl)) ?_ ?_
   ·refine sqR<|aF (aJ.box (cs:=[vS (p0.1),v0,v1]) rfl rfl) rfl fun b189=>aF (aJ.box (cs:=[v2,v3]) rfl rfl) rfl fun b190=>qkAsg rfl<|dtN<|aG ?_
    refine JR.start [0,0,0,4,12,28,63,127,255] 6 mixedOrders (by decide +kernel) ?_
    refine JR.open (by exact rfl) ?_
    refine jkLdA 1 rfl<|jkLdA 0 rfl<|jkFld rfl<|jkLd 0 rfl<|bI rfl .nil (oK 4 rfl) (iL rfl (aC.fact 0 rfl) rfl) aM.z<|ckE h fun j191 h=>JR.stp (wL bO (Int.toNat (List.length p1.2:Int)))<|JR.loud rfl rfl rfl (oO (e:=cR.raw) (kT) rfl rfl rfl rfl j191 rfl rfl rfl) rfl (fun u192=>(m_ [([2],[]),([3],[])] rfl)) fun u192=>bH 6 rfl rfl<|bY (Know.one (aC.sl (bA (i:=0) (j:=1) rfl rfl cE))) fun ho193=>?_
    refine aB (RF (r:=Value.agg #[vS (p0.1),v0,v1,v2,v3,vI (0:Int),u192]) rfl rfl rfl (by intro w;simp[Instr.build,Instr.fill,eG,dR,cT,eH,eI,dU,fP,kA ho193])) rfl ?_
    refine aF (aJ.box (cs:=[vS (p0.1),v0,v1,v2,v3,vI (0:Int),u192]) rfl rfl) rfl fun b194=>qkAsg rfl<|dtN<|aG<|midL (B:=f_) (fun a198=>sE U p0 p1 p2 p3 p4 a198=some r) (fun a198 b199=>[(5,vP b194)]) (fun a198 b199=>[bS b194 [vS (p0.1),v0,v1,v2,v3,vI (a198.1),u192] 218,Ar cR.raw u192 b199,gZ bO b199 a198.2,bS b176 [v2,v3] 29,bS b175 [vS (p0.1),v0,v1] 36,bS b155 YX 107,bS b154 [v2,v3] 29,bS b153 [vS (p0.1),v0,v1] 36,bS b3 CQ 63]) ?_ ?_
    ·refine sqR<|qkFld rfl<|qkLd 3 rfl<|aB (iL rfl (aC.fact 4 rfl) rfl) rfl<|qkMove rfl<|dtN<|aO<|loopL (B:=f_) (kU U p0 p1 p2 p3 p4) (fun a205 b206=>[(3,vP b190),(5,vP b194),(19,v3),(20,vI (List.length p1.2:Int)),(21,vI (a205.1))]) (fun a205 b206=>[bS b194 [vS (p0.1),v0,v1,v2,v3,vI (a205.2.1),u192] 218,Ar cR.raw u192 b206,gZ bO b206 a205.2.2,bS b190 [v2,v3] 29,bS b176 [v2,v3] 29,bS b175 [vS (p0.1),v0,v1] 36,bS b155 YX 107,bS b154 [v2,v3] 29,bS b153 [vS (p0.1),v0,v1] 36,bS b3 CQ 63]) ((0:Int),(0:Int),(List.replicate (Int.toNat (List.length p1.2:Int)) ([]:aL))) (List.replicate (Int.toNat (List.length p1.2:Int)) (kT)) h SF (aV.ix [0,1,2,3,5,6,7,8,9,10] rfl rfl) ?_
     intro k207 a205 b206 h
     refine sqR<|qkLss rfl<|dtN<|aG ?_
     refine eF h rfl (fun h=>?_) fun h=>?_
     ·refine cJ<|aG<|midL (B:=f_) (fun a211=>wE p1 a205 (bE (kU U p0 p1 p2 p3 p4) k207) a211=some r) (fun a211 b212=>[(3,vP b190),(5,vP b194),(19,v3),(20,vI (List.length p1.2:Int)),(21,vI (a205.1))]) (fun a211 b212=>[bS b194 [vS (p0.1),v0,v1,v2,v3,vI (max a205.2.1 (at' p1.1 a205.1)),u192] 218,Ar cR.raw u192 b212,gZ bO b212 a211,bS b190 [v2,v3] 29,bS b176 [v2,v3] 29,bS b175 [vS (p0.1),v0,v1] 36,bS b155 YX 107,bS b154 [v2,v3] 29,bS b153 [vS (p0.1),v0,v1] 36,bS b3 CQ 63]) ?_ ?_
      ·refine aO<|sqR<|qkMove rfl<|ckE h fun j213 h=>aB (cP rfl rfl (aC.fact 4 rfl) rfl rfl j213) rfl<|aB (cQ rfl (aC.fact 4 rfl) rfl rfl j213) rfl<|qkAsg rfl<|qkAsg rfl<|dtN<|aG ?_
       refine JR.start [0,0,2,6,14,0,32,0,224,480,1022,2047,4095,8191] 11 mixedOrders (by decide +kernel) ?_
       refine JR.open (by exact rfl) ?_
       refine jkMove rfl<|jkMove rfl<|jqN rfl (bP rfl)<|jkFld rfl<|jkLd 0 rfl<|jkFld rfl<|jkLd 3 rfl<|jkMove rfl<|ckE h fun j214 h=>bI rfl .nil (oK 3 rfl) (aX rfl rfl (aC.fact 0 rfl) rfl rfl j214) aM.z<|bI rfl .nil (oK 3 rfl) (bQ rfl (aC.fact 0 rfl) rfl rfl rfl cZ j214) aM.z<|jqN rfl (Le rfl rfl)<|bH 11 rfl rfl<|aB (bP rfl) rfl<|qkFld rfl<|iQ 0 rfl rfl rfl rfl rfl rfl<|dtN<|sqR<|qkMove rfl<|aB (fI rfl (aC.el (aC.fact 4 rfl) j213.1 j213.2) rfl) rfl<|qkMove rfl<|dtN<|aO<|loopL (B:=f_) (pQ U p1 a205 (bE (kU U p0 p1 p2 p3 p4) k207)) (fun a219 b220=>[(3,vP b190),(5,vP b194),(6,vI (a205.1)),(19,v3),(20,vI (List.length p1.2:Int)),(21,vI (a205.1)),(39,(at' z4 a205.1).1),(40,vI (List.length (at' p1.2 a205.1):Int)),(41,vI (a219.1))]) (fun a219 b220=>[bS b194 [vS (p0.1),v0,v1,v2,v3,vI (max a205.2.1 (at' p1.1 a205.1)),u192] 218,Ar cR.raw u192 b220,gZ bO b220 a219.2,bS b190 [v2,v3] 29,bS b176 [v2,v3] 29,bS b175 [vS (p0.1),v0,v1] 36,bS b155 YX 107,bS b154 [v2,v3] 29,bS b153 [vS (p0.1),v0,v1] 36,bS b3 CQ 63]) ((0:Int),a205.2.2) (b206) h SF (aV.refl _) ?_
       intro k221 a219 b220 h
       refine sqR<|qkLss rfl<|dtN<|aG ?_
       refine eF h rfl (fun h=>?_) fun h=>?_
       ·refine cJ<|aG<|aO<|sqR<|ckE h fun j223 h=>aB (aX rfl rfl (aC.el (aC.fact 4 rfl) j213.1 j213.2) rfl rfl j223) rfl<|aB (hZ (cs:=[vI ((at' (at' p1.2 a205.1) a219.1).1),vI ((at' (at' p1.2 a205.1) a219.1).2)]) rfl (aC.el (aC.fact 4 rfl) j213.1 j213.2) bG rfl rfl rfl rfl j223) rfl<|aF (aJ.alloc (cs:=QT) rfl rfl) rfl fun b224=>bK 0 (vs:=[vI ((at' (at' p1.2 a205.1) a219.1).1),vI ((at' (at' p1.2 a205.1) a219.1).2)]) rfl rfl rfl rfl rfl rfl<|dtN ?_
        refine JR.start [0,1,3,7,0,0,32,96,224,0,992,2016,0,0,8192,0,61440,126976,262112,524287,1048575] 19 mixedOrders (by decide +kernel) ?_
        refine JR.open (by exact rfl) ?_
        refine jkMove rfl<|jqN rfl (bP rfl)<|jkFld rfl<|jkLd 1 rfl<|jkMove rfl<|jkMove rfl<|jqN rfl (bP rfl)<|jkFld rfl<|jkLd 1 rfl<|jkMove rfl<|ckE h fun j225 h=>bX (cO 3 rfl) fun hl226=>?_
        refine bI rfl (aV.cons 2 rfl .nil) .nil (iS 0 rfl rfl rfl rfl rfl j225.1 (by have q1:=j225.2;have q2:=hl226;(try simp only[List.length_set]at q1);(try simp only[List.length_set]at q2);(try simp only[List.length_set]);omega)) aM.z ?_
        refine bX (cO 3 rfl) fun hl227=>bI rfl (aV.cons 2 rfl .nil) .nil (nU 0 rfl rfl hl227 rfl rfl j225) aM.z<|jkLdA 4 rfl<|jkFld rfl<|jkLd 0 rfl<|jkMove rfl<|bnE h fun r228 w229 h=>JR.loud rfl rfl rfl (aJ.callQ XN (HF U v2 v3 z4 r228 w229) rfl (lH [3,4] rfl)) rfl (fun x230=>(m_ [([2],[]),([2],[]),([1],[]),([1],[])] rfl)) fun x230=>JR.loud rfl rfl rfl (cC (e:=bO) ([r228]) [(0,vI (r228))] rfl rfl rfl rfl (mT (vI (r228)) rfl) rfl rfl rfl) rfl (fun u231=>(m_ [([3],[]),([3],[]),([2],[]),([2],[])] rfl)) fun u231=>ckE h fun j233 h=>JR.loud rfl rfl rfl (oY 4 cE rfl rfl rfl (aP (aC.res 0 rfl) cE) rfl rfl rfl rfl j225 j233 rfl) rfl (fun u232=>(m_ [([2],[])] rfl)) fun u232=>bH 19 rfl rfl<|ckE h fun j234 h=>bY (cO 4 rfl) fun hl235=>?_
        refine aB (iS 3 rfl rfl rfl rfl rfl j234.1 (by have q1:=j234.2;have q2:=hl235;(try simp only[List.length_set]at q1);(try simp only[List.length_set]at q2);(try simp only[List.length_set]);omega)) rfl ?_
        refine bY (yS 4 (k:=a205.1) rfl ⟨j234.1,by first|exact j234.2|simpa using j234.2⟩) fun ho236=>?_
        refine oM 3 4 ⟨j234.1,by first|exact j234.2|simpa using j234.2⟩ rfl rfl rfl rfl rfl (by simp) ho236 rfl ?_
        refine dK<|inT<|aK<|qkAdd rfl<|qkMove rfl<|dtN ?_
        exact mO ((wI .i64 (a219.1+(1:Int))),(List.set a219.2 (Int.toNat a205.1) ((at' a219.2 a205.1)++[r228]))) (List.set b220 (Int.toNat a205.1) u232) h SF (aV.ix [2,3,4,5,6,7,8,9,10,11] rfl rfl) (aD.refl _ _)
       refine qE<|eC<|eC<|wK<|inT ?_
       exact fM (a219.2) (b220) h SF rfl
      intro a211 b212 h
      unfold wE at h
      refine aK<|qkAdd rfl<|qkMove rfl<|dtN ?_
      exact xV ((wI .i64 (a205.1+(1:Int))),(max a205.2.1 (at' p1.1 a205.1)),a211) (b212) h SF rfl
     refine eZ ?_
     exact bV (a205.2.1,a205.2.2) (b206) h SF (aV.ix [0,1,2,4,5,6,7,8,9] rfl rfl) (aD.refl _ _)
    intro a198 b199 h
    unfold sE at h
    refine sqR<|qkMove rfl<|qkAsg rfl<|dtN<|aR ?_
    exact zD (a198.1,a198.2) (b194,u192,b199) h (.inl rfl) (HX.r1 rfl (RV.tmp rfl)) rfl (aV.refl _) (aD.refl _ _)
   intro a182 b183 h
   unfold wD at h
   refine bI rfl (aV.cons 4 rfl .nil) .nil (gH 0 rfl rfl rfl rfl) (aM.h (aV.ix [1] rfl rfl) .nil aM.z)<|bI rfl (aV.cons 3 rfl .nil) .nil (gH 0 rfl rfl rfl rfl) (aM.h (aV.ix [0] rfl rfl) .nil aM.z)<|bnE h fun r184 w185 h=>JR.loud rfl rfl rfl (aJ.callQ Sj (BM U v0 v1 v2 v3 z4 r184 w185) rfl (lH [0,1,2,3,4] rfl)) rfl (fun x186=>(m_ [([6],[])] rfl)) fun x186=>bH 7 rfl rfl<|bY (Know.one (aC.sl (bA (i:=0) (j:=1) rfl rfl bG))) fun ho187=>?_
   refine aB (RF (r:=Value.agg #[vS (p0.1),v0,v1,Value.pointer (some ⟨b183.1,0,none⟩),x186.1]) rfl rfl rfl (by intro w;simp[Instr.build,Instr.fill,eG,dR,cT,eH,eI,dU,fP,kA ho187])) rfl ?_
   refine aF (aJ.box (cs:=[vS (p0.1),v0,v1,vP b183.1,x186.1]) rfl rfl) rfl fun b188=>qkAsg rfl<|dtN<|aR ?_
   exact zD (r184,a182.1,a182.2) (b188,b183.1,x186.1,x186.2,b183.2.1,b183.2.2) h (.inl rfl) (HX.r1 rfl (RV.tmp rfl)) rfl (aV.ix [0,1,2,3,4,5,8,9,10,11] rfl rfl) (aD.refl _ _)
  intro a165 b166 h
  unfold wC at h
  refine bI rfl (aV.cons 7 rfl .nil) .nil (gH 0 rfl rfl rfl rfl) (aM.h (aV.ix [1] rfl rfl) .nil aM.z)<|bnE h fun r167 w168 h=>JR.loud rfl rfl rfl (aJ.callQ UX (FJ U v2 v3 z4 r167 w168) rfl (lH [3,4] rfl)) rfl (fun x169=>(m_ [] rfl)) fun x169=>jqN rfl (fO rfl)<|bI rfl (aV.cons 8 rfl .nil) .nil (gH 0 rfl rfl rfl rfl) (aM.h (aV.ix [7] rfl rfl) .nil (aM.h (aV.ix [1] rfl rfl) .nil aM.z))<|bnE h fun r170 w171 h=>JR.loud rfl rfl rfl (aJ.callQ Ol (FA U v2 v3 z4 r170 w171) rfl (lH [3,4] rfl)) rfl (fun x172=>(m_ [] rfl)) fun x172=>jqN rfl (fO rfl)<|bH 9 rfl rfl<|bY (Know.one ((aP (aC.res 0 rfl) iP))) fun ho173=>?_
  refine aB (Y.bld5 (r:=Value.agg #[Value.pointer (some ⟨b166.1,0,none⟩),x169,vI (p2),vU (r170),Value.func (.func 61) #[] #[]]) rfl rfl rfl rfl rfl (by intro w;simp[Instr.build,Instr.fill,eG,dR,cT,eH,eI,dU,fP,kA ho173])) rfl ?_
  refine bY (Know.one ((aP (aC.res 0 rfl) iP))) fun ho174=>bK 7 (vs:=[vP b166.1,x169,vI (p2),vU (r170),Value.func (.func 61) #[] #[]]) rfl rfl (cK rfl (cK ho174 (cK rfl (cK rfl (cK rfl rfl))))) rfl rfl rfl<|dtN<|aR ?_
  exact zD (r170,r167,a165.1,a165.2.1,a165.2.2) (b166.1,x169,b166.2.1,b166.2.2.1,b166.2.2.2.1,b166.2.2.2.2.1,b166.2.2.2.2.2) h (.inl rfl) (HX.r1 rfl (RV.cell 7 rfl rfl rfl rfl)) rfl (aV.ix [0,1,2,3,4,5,6,10] rfl rfl) (aD.refl _ _)
 intro a20 b21 h
 refine qkMove rfl<|qkMove rfl<|CV (A:=CN) (B:=Value×Value×Value×List Value) (vs:=[Value.agg #[vP b21.1,b21.2.1,vI (p2),vU (a20.1),Value.func (.func 61) #[] #[]],v5,v7]) (fun a35=>zP  a35=some r) (fun a35 b36=>Value.tuple #[Value.agg #[b36.1,b36.2.1,b36.2.2.1,vI (a35.1),vI (a35.2.1),vI (a35.2.2.1),vI (a35.2.2.2.1),vU (a35.2.2.2.2.1)],vI (a35.2.2.2.2.2.1)]) (fun a35 b36=>[bS b3 CQ 63,Ar g_ b36.1 a35.2.2.2.2.2.2.1,Ar g_ b36.2.1 a35.2.2.2.2.2.2.2.1,Ar cR.raw b36.2.2.1 b36.2.2.2,gZ bO b36.2.2.2 a35.2.2.2.2.2.2.2.2]) (fun a35 b36=>[Sl aH v0 p0.2.1,Sl aE v1 p0.2.2,PF (Value.agg #[vS p0.1,v0,v1]),Sl bD v2 p1.1,S2 a_ v3 z4 p1.2,S2 bD v5 z6 p3,Sl tJ v7 p4,Gb 0 (cellsOf BV pV)]) (xE.fn (show aQ Tryz.prog 62 from Tryz.call62) rfl) Tryz.func62 rfl Tryz.ntmps62 rfl rfl ?_ ?_
 ·refine sqR<|aF (aJ.box (cs:=[vP b21.1,b21.2.1,vI (p2),vU (a20.1),Value.func (.func 61) #[] #[]]) rfl rfl) rfl fun b40=>bY (Know.one ((aC.fact 6 rfl))) fun ho42=>?_
  refine aF (aJ.box (cs:=[v7]) rfl (by rw[kA ho42])) rfl fun b41=>?_
  refine aF (aJ.alloc (cs:=CQ) rfl rfl) rfl fun b43=>qkAsg rfl<|dtN<|sqR<|qkLdA 2 rfl<|qkMove rfl<|qkLd 1 rfl<|qkLen (aC.fact 6 rfl) rfl<|aB (Ay (cs:=[.tmp 3,.tmp 5]) (vs:=[vP b40,vP b41]) rfl) rfl<|CV (A:=aL×aL×aY×Int×Int×Int×Int×Int×Int) (B:=Value×Value×Value×List Value) (vs:=[Value.agg #[vP b21.1,b21.2.1,vI (p2),vU (a20.1),Value.func (.func 61) #[] #[]],v5,vI (List.length p4:Int),Value.func (.func 105) #[] #[vP b40,vP b41]]) (fun a57=>wB  a57=some r) (fun a57 b58=>Value.tuple #[Value.agg #[b58.1,b58.2.1,b58.2.2.1,vI (a57.2.2.2.1),vI (a57.2.2.2.2.1),vI (a57.2.2.2.2.2.1),vI (a57.2.2.2.2.2.2.1),vU (a57.2.2.2.2.2.2.2.1)],vI (a57.2.2.2.2.2.2.2.2)]) (fun a57 b58=>[bS b43 CQ 63,bS b3 CQ 63,Ar g_ b58.1 a57.1,Ar g_ b58.2.1 a57.2.1,Ar cR.raw b58.2.2.1 b58.2.2.2,gZ bO b58.2.2.2 a57.2.2.1]) (fun a57 b58=>[Sl aH v0 p0.2.1,Sl aE v1 p0.2.2,PF (Value.agg #[vS p0.1,v0,v1]),Sl bD v2 p1.1,S2 a_ v3 z4 p1.2,S2 bD v5 z6 p3,Sl tJ v7 p4,Gb 0 (cellsOf BV pV)]) (xE.fn (show aQ Tryz.prog 104 from Tryz.call104) rfl) Tryz.func104 rfl Tryz.ntmps104 rfl rfl ?_ ?_
  ·refine sqR<|aF (aJ.box (cs:=[vP b21.1,b21.2.1,vI (p2),vU (a20.1),Value.func (.func 61) #[] #[]]) rfl rfl) rfl fun b62=>aF (aJ.alloc (cs:=CQ) rfl rfl) rfl fun b63=>qkAsg rfl<|dtN<|sqR<|aF (aJ.alloc (cs:=CQ) rfl rfl) rfl fun b64=>dtN<|sqR<|qkMove rfl<|bnE h fun r65 w66 h=>aF (aJ.callQ On (CL U v5 z6 r65 w66) rfl (lH [5] rfl)) rfl fun x67=>qkAsg rfl<|dtN<|aG ?_
   refine JR.start [0,1,0,7,0,16,63,127] 6 mixedOrders (by decide +kernel) ?_
   refine JR.open (by exact rfl) ?_
   refine jkFld rfl<|jkLd 4 rfl<|jkMove rfl<|bnE h fun r68 w69 h=>JR.loud rfl rfl rfl (aJ.callQ Sk (tW U b21.1 v0 v1 b21.2.2.1 v0 v1 v2 v3 z4 b21.2.2.2.2.2.1 (List.zip b21.2.2.2.2.2.2 a20.2.2.2.2) b21.2.2.2.1 (List.zip b21.2.2.2.2.1 a20.2.2.1) x67.1 (List.zip x67.2 r65) r68 w69) rfl (aD.cons (aC.res 9 rfl) (aD.cons (aC.fact 0 rfl) (aD.cons (aC.fact 1 rfl) (aD.cons (aC.res 12 rfl) (aD.cons (aC.fact 0 rfl) (aD.cons (aC.fact 1 rfl) (aD.cons (aC.fact 3 rfl) (aD.cons (aC.fact 4 rfl) (aD.cons (bA (i:=13) (j:=14) rfl rfl cE) (aD.cons (bA (i:=10) (j:=11) rfl rfl bG) (aD.cons (bA (i:=0) (j:=1) rfl rfl cE) .nil)))))))))))) rfl (fun x70=>(m_ [] rfl)) fun x70=>jqN rfl (dY rfl rfl rfl rfl rfl)<|bI rfl (aV.cons 4 rfl .nil) .nil (eX 0 rfl rfl rfl rfl rfl) (aM.h (aV.ix [4] rfl rfl) .nil aM.z)<|bH 6 rfl rfl<|qkAnd rfl<|qkAsg rfl<|dtN<|sqR<|qkMove rfl<|bnE h fun r71 w72 h=>aF (aJ.callQ Ve (FH U  r71 w72) rfl .nil) rfl fun x73=>aF (aJ.alloc (cs:=Xj) rfl rfl) rfl fun b74=>bK 0 (vs:=[vI (r71.1),vI (r71.2.1),vI (r71.2.2.1),vI (r71.2.2.2.1),vU (r71.2.2.2.2)]) rfl rfl rfl rfl rfl rfl<|dtN<|sqR<|qkFld rfl<|qkLd 5 rfl<|qkMove rfl<|qkMove rfl<|qkLdA 0 rfl<|bnE h fun r75 w76 h=>aF (qG (vs:=[x67.1,vU (cY .u32 r68 a20.1),Value.agg #[vI (r71.1),vI (r71.2.1),vI (r71.2.2.1),vI (r71.2.2.2.1),vU (r71.2.2.2.2)]]) (cs:=[]) Sg rfl (Ep U x67.1 (List.zip x67.2 r65) r75 w76) rfl (aD.cons (bA (i:=1) (j:=2) rfl rfl cE) .nil) (fun _ _=>rfl)) rfl fun x77=>dtN<|sqR<|qkFld rfl<|qkLd 3 rfl<|qkMove rfl<|aF (cC (e:=g_) ([(cY .u32 r68 a20.1)]) [(0,vU (cY .u32 r68 a20.1))] rfl rfl rfl rfl (mT (vU (cY .u32 r68 a20.1)) rfl) rfl rfl rfl) rfl fun u78=>iR (iF g_)<|ckE h fun j80 h=>aF (fN 0 iP rfl rfl rfl (aP (aC.res 1 rfl) iP) rfl rfl rfl rfl j80 rfl) rfl fun u79=>qkFld rfl<|bY (Know.one ((aP (aC.res 0 rfl) iP))) fun ho81=>iQ 5 rfl rfl ho81 rfl rfl rfl<|dtN<|aG<|midL (B:=Value×List Value×Value×Value) (fun a94=>sD  a94=some r) (fun a94 b95=>[(1,b95.1),(8,vP b63),(10,vP b64),(12,vP b74)]) (fun a94 b95=>[Ar g_ b95.2.2.2 a94.1,bS b74 [vI (a94.2.1),vI (a94.2.2.1),vI (a94.2.2.2.1),vI (a94.2.2.2.2.1),vU (a94.2.2.2.2.2.1)] 61,Ar cR.raw b95.1 b95.2.1,gZ bO b95.2.1 a94.2.2.2.2.2.2.1,bS b64 [b95.2.2.1,b95.2.2.2,kT,vI (0:Int),vI (0:Int),vI (0:Int),vI (0:Int),vU (0:Int)] 63,bS b63 CQ 63,bS b43 CQ 63,bS b3 CQ 63,Ar g_ b95.2.2.1 a94.2.2.2.2.2.2.2]) ?_ ?_
   ·refine sqR<|qkMove rfl<|qkMove rfl<|dtN<|aO<|iR (iF g_)<|loopL (B:=Value×List Value×Value×Value) (sF U p0 p1 p2 p4 a20) (fun a117 b118=>[(1,b118.1),(3,Value.func (.func 105) #[] #[vP b40,vP b41]),(4,vP b62),(8,vP b63),(10,vP b64),(11,vU (a117.1)),(12,vP b74),(39,vI (List.length p4:Int)),(40,vI (a117.2.2.1))]) (fun a117 b118=>[Ar g_ b118.2.2.2 a117.2.1,bS b74 [vI (a117.2.2.2.1),vI (a117.2.2.2.2.1),vI (a117.2.2.2.2.2.1),vI (a117.2.2.2.2.2.2.1),vU (a117.2.2.2.2.2.2.2.1)] 61,Ar cR.raw b118.1 b118.2.1,gZ bO b118.2.1 a117.2.2.2.2.2.2.2.2.1,bS b64 [b118.2.2.1,b118.2.2.2,kT,vI (0:Int),vI (0:Int),vI (0:Int),vI (0:Int),vU (0:Int)] 63,bS b63 CQ 63,bS b62 [vP b21.1,b21.2.1,vI (p2),vU (a20.1),Value.func (.func 61) #[] #[]] 107,bS b43 CQ 63,bS b41 [v7] 25,bS b40 [vP b21.1,b21.2.1,vI (p2),vU (a20.1),Value.func (.func 61) #[] #[]] 107,Ar g_ b21.2.1 a20.2.1,bS b21.1 [vS (p0.1),v0,v1,vP b21.2.2.1,b21.2.2.2.1] 170,Ar cR.raw b21.2.2.2.1 b21.2.2.2.2.1,gZ bM b21.2.2.2.2.1 a20.2.2.1,bS b21.2.2.1 [vS (p0.1),v0,v1,v2,v3,vI (a20.2.2.2.1),b21.2.2.2.2.2.1] 218,Ar cR.raw b21.2.2.2.2.2.1 b21.2.2.2.2.2.2,gZ bO b21.2.2.2.2.2.2 a20.2.2.2.2,bS b3 CQ 63,Ar g_ b118.2.2.1 a117.2.2.2.2.2.2.2.2.2]) ((cY .u32 r68 a20.1),(([]:aL)++([(cY .u32 r68 a20.1)])),(0:Int),r71.1,r71.2.1,r71.2.2.1,r71.2.2.2.1,r71.2.2.2.2,r65,([]:aL)) (x67.1,x67.2,(kT),u79) h SF (aV.ix [1,3,4,5,6,7,8,9,10,11,12,13,14,15,16,17,18,19,0] rfl rfl) ?_
    intro k119 a117 b118 h
    refine sqR<|qkLss rfl<|dtN<|aG ?_
    refine eF h rfl (fun h=>?_) fun h=>?_
    ·refine cJ<|aG<|aO<|sqR<|qkMove rfl<|qkAsg rfl<|dtN<|sqR<|qkMove rfl<|qkMove rfl<|qkMove rfl<|CV (A:=Int) (B:=Unit) (vs:=[vI (a117.2.2.1),vU (a117.1),vP b40,vP b41]) (fun a122=>zQ U p0 p1 p2 a20 a117 (bE (sF U p0 p1 p2 p4 a20) k119) a122=some r) (fun a122 b123=>Value.tuple #[vU (a122),vB (decide (a117.1≠(0:Int)))]) (fun a122 b123=>[Ar g_ b118.2.2.2 a117.2.1,bS b74 [vI (a117.2.2.2.1),vI (a117.2.2.2.2.1),vI (a117.2.2.2.2.2.1),vI (a117.2.2.2.2.2.2.1),vU (a117.2.2.2.2.2.2.2.1)] 61,Ar cR.raw b118.1 b118.2.1,gZ bO b118.2.1 a117.2.2.2.2.2.2.2.2.1,bS b64 [b118.2.2.1,b118.2.2.2,kT,vI (0:Int),vI (0:Int),vI (0:Int),vI (0:Int),vU (0:Int)] 63,bS b63 CQ 63,bS b62 [vP b21.1,b21.2.1,vI (p2),vU (a20.1),Value.func (.func 61) #[] #[]] 107,bS b43 CQ 63,bS b41 [v7] 25,bS b40 [vP b21.1,b21.2.1,vI (p2),vU (a20.1),Value.func (.func 61) #[] #[]] 107,Ar g_ b21.2.1 a20.2.1,bS b21.1 [vS (p0.1),v0,v1,vP b21.2.2.1,b21.2.2.2.1] 170,Ar cR.raw b21.2.2.2.1 b21.2.2.2.2.1,gZ bM b21.2.2.2.2.1 a20.2.2.1,bS b21.2.2.1 [vS (p0.1),v0,v1,v2,v3,vI (a20.2.2.2.1),b21.2.2.2.2.2.1] 218,Ar cR.raw b21.2.2.2.2.2.1 b21.2.2.2.2.2.2,gZ bO b21.2.2.2.2.2.2 a20.2.2.2.2,bS b3 CQ 63,Ar g_ b118.2.2.1 a117.2.2.2.2.2.2.2.2.2]) (fun a122 b123=>[Sl aH v0 p0.2.1,Sl aE v1 p0.2.2,PF (Value.agg #[vS p0.1,v0,v1]),Sl bD v2 p1.1,S2 a_ v3 z4 p1.2,S2 bD v5 z6 p3,Sl tJ v7 p4,Gb 0 (cellsOf BV pV)]) (PI (us:=[vI (a117.2.2.1),vU (a117.1)]) (cs:=[vP b40,vP b41]) (show aQ Tryz.prog 105 from Tryz.call105) rfl rfl rfl) Tryz.func105 rfl Tryz.ntmps105 rfl rfl ?_ ?_
     ·refine sqR<|qkAsg rfl<|qkAsg rfl<|dtN<|aG ?_
      refine JR.start [0,1,0,4,0,0,0,96,224,511,0,1024,1023,8191] 13 mixedOrders (by decide +kernel) ?_
      refine JR.open (by exact rfl) ?_
      refine jkFld rfl<|jkLd 9 rfl<|jkFld rfl<|jkLd 9 rfl<|jkMove rfl<|jkLd 8 rfl<|jkMove rfl<|ckE h fun j149 h=>bI rfl .nil (oK 6 rfl) (aX rfl rfl (aC.fact 0 rfl) rfl rfl j149) aM.z<|bI rfl .nil (oK 6 rfl) (bQ rfl (aC.fact 0 rfl) rfl rfl rfl Bn j149) aM.z<|bnE h fun r150 w151 h=>JR.loud rfl rfl rfl (aJ.callQ Om (uT U b21.2.1 r150 w151) rfl (aD.cons (aP (aC.res 10 rfl) iP) (lH [7] rfl))) rfl (fun x152=>(m_ [] rfl)) fun x152=>jqN rfl (fO rfl)<|jqN rfl (IA rfl rfl)<|jqN rfl (nS rfl)<|bH 13 rfl rfl<|qkAsg rfl<|dtN<|aR ?_
      exact zD (r150) () h (.inl rfl) (HX.r2 rfl (RV.tmp rfl) (RV.tmp rfl)) rfl (aV.refl _) (aD.refl _ _)
     intro a122 b123 h
     refine qkMove rfl<|qkExt rfl<|qkExt rfl<|qkAsg rfl<|qkAsg rfl<|dtN<|aG<|sqR<|qkMove rfl<|aB (Xw rfl) rfl<|dtN ?_
     refine eF h rfl (fun h=>?_) fun h=>?_
     ·refine qE<|eC<|UC rfl<|eC<|eC<|wK<|xI ?_
      exact bV (a117.2.1,a117.2.2.2.1,a117.2.2.2.2.1,a117.2.2.2.2.2.1,a117.2.2.2.2.2.2.1,a117.2.2.2.2.2.2.2.1,a117.2.2.2.2.2.2.2.2.1,a117.2.2.2.2.2.2.2.2.2) (b118.1,b118.2.1,b118.2.2.1,b118.2.2.2) h SF (aV.ix [0,1,2,3,4,5,7,17,18] rfl rfl) (aD.refl _ _)
     refine cJ<|aG<|sqR<|qkFld rfl<|qkLd 6 rfl<|qkFld rfl<|qkLd 6 rfl<|qkMove rfl<|qkMove rfl<|bnE h fun r125 w126 h=>aF (aJ.callQ Ot (uS U b21.2.1 r125 w126) rfl (aD.cons (aP (aC.res 10 rfl) iP) (lH [7] rfl))) rfl fun x127=>aB (rK rfl) rfl<|dtN ?_
     refine z_ h rfl (fun _ h=>?_) fun _ h=>?_
     ·refine sqR ?_
      refine aB (Gy (r:=Value.agg #[kT,kT,kT,vI (0:Int),vI (0:Int),vI (0:Int),vI (0:Int),vU (0:Int)]) (by intro w;simp[Instr.build,Instr.fill,eG,dR,cT,eH,eI,dU,fP])) rfl ?_
      refine bK 5 (vs:=CQ) rfl rfl rfl rfl rfl rfl<|qkAsg rfl<|dtN<|aR<|aI<|bL<|aI<|aI<|bL<|aI<|iR (iF g_)<|iR (iF g_)<|iR (iF cR.raw) (iR (tR bO) ?_)
      exact zD (([]:aL),([]:aL),([]:aY),(0:Int),(0:Int),(0:Int),(0:Int),(0:Int),(11:Int)) ((kT),(kT),(kT),([]:f_)) h (.inl rfl) (HX.r2 rfl (RV.cell 9 rfl rfl rfl rfl) (RV.tmp rfl)) rfl (aV.ix [11,21,2,3,1,0] rfl rfl) (aD.refl _ _)
     refine cJ<|sqR<|qkFld rfl<|qkLd 6 rfl<|qkMove rfl<|qkMove rfl<|bnE h fun r129 w130 h=>aF (aJ.callQ Vf (BL U b21.1 v0 v1 b21.2.2.1 v0 v1 v2 v3 z4 b21.2.2.2.2.2.1 (List.zip b21.2.2.2.2.2.2 a20.2.2.2.2) b21.2.2.2.1 (List.zip b21.2.2.2.2.1 a20.2.2.1) b118.1 (List.zip b118.2.1 a117.2.2.2.2.2.2.2.2.1) r129 w130) rfl (aD.cons (aC.res 11 rfl) (aD.cons (aC.fact 0 rfl) (aD.cons (aC.fact 1 rfl) (aD.cons (aC.res 14 rfl) (aD.cons (aC.fact 0 rfl) (aD.cons (aC.fact 1 rfl) (aD.cons (aC.fact 3 rfl) (aD.cons (aC.fact 4 rfl) (aD.cons (bA (i:=15) (j:=16) rfl rfl cE) (aD.cons (bA (i:=12) (j:=13) rfl rfl bG) (aD.cons (bA (i:=2) (j:=3) rfl rfl cE) .nil)))))))))))) rfl fun x131=>qkAsg rfl<|dtN<|aG ?_
     refine JR.start [0,1,0,7,0,16,63,127] 6 mixedOrders (by decide +kernel) ?_
     refine JR.open (by exact rfl) ?_
     refine jkFld rfl<|jkLd 8 rfl<|jkMove rfl<|bnE h fun r132 w133 h=>JR.loud rfl rfl rfl (aJ.callQ Sk (tW U b21.1 v0 v1 b21.2.2.1 v0 v1 v2 v3 z4 b21.2.2.2.2.2.1 (List.zip b21.2.2.2.2.2.2 a20.2.2.2.2) b21.2.2.2.1 (List.zip b21.2.2.2.2.1 a20.2.2.1) x131.1 (List.zip x131.2 r129) r132 w133) rfl (aD.cons (aC.res 13 rfl) (aD.cons (aC.fact 0 rfl) (aD.cons (aC.fact 1 rfl) (aD.cons (aC.res 16 rfl) (aD.cons (aC.fact 0 rfl) (aD.cons (aC.fact 1 rfl) (aD.cons (aC.fact 3 rfl) (aD.cons (aC.fact 4 rfl) (aD.cons (bA (i:=17) (j:=18) rfl rfl cE) (aD.cons (bA (i:=14) (j:=15) rfl rfl bG) (aD.cons (bA (i:=0) (j:=1) rfl rfl cE) .nil)))))))))))) rfl (fun x134=>(m_ [] rfl)) fun x134=>jqN rfl (dY rfl rfl rfl rfl rfl)<|bI rfl (aV.cons 8 rfl .nil) .nil (eX 0 rfl rfl rfl rfl rfl) (aM.h (aV.ix [8] rfl rfl) .nil aM.z)<|bH 6 rfl rfl<|qkAnd rfl<|qkAsg rfl<|dtN<|sqR<|qkLdA 3 rfl<|qkMove rfl<|qkMove rfl<|bnE h fun r135 w136 h=>aF (aJ.callQ Vg (Ii U  r135 w136) rfl .nil) rfl fun x137=>qkMove rfl<|qkExt rfl<|qkExt rfl<|bK 3 (vs:=[vI (r135.1.1),vI (r135.1.2.1),vI (r135.1.2.2.1),vI (r135.1.2.2.2.1),vU (r135.1.2.2.2.2)]) rfl rfl rfl rfl rfl rfl<|dtN<|sqR<|qkFld rfl<|qkLd 8 rfl<|qkMove rfl<|qkMove rfl<|qkLdA 3 rfl<|bnE h fun r138 w139 h=>aF (qG (vs:=[x131.1,vU (cY .u32 r132 a20.1),Value.agg #[vI (r135.1.1),vI (r135.1.2.1),vI (r135.1.2.2.1),vI (r135.1.2.2.2.1),vU (r135.1.2.2.2.2)]]) (cs:=[]) Sg rfl (Ep U x131.1 (List.zip x131.2 r129) r138 w139) rfl (aD.cons (bA (i:=0) (j:=1) rfl rfl cE) .nil) (fun _ _=>rfl)) rfl fun x140=>dtN<|sqR<|qkFld rfl<|qkLd 6 rfl<|qkMove rfl<|aF (cC (e:=g_) ([a122]) [(0,vU (a122))] rfl rfl rfl rfl (mT (vU (a122)) rfl) rfl rfl rfl) rfl fun u141=>ckE h fun j143 h=>aF (fN 21 iP rfl rfl rfl (aP (aC.res 0 rfl) iP) rfl rfl rfl rfl j143 rfl) rfl fun u142=>qkFld rfl<|bY (Know.one ((aP (aC.res 21 rfl) iP))) fun ho144=>iQ 7 rfl rfl ho144 rfl rfl rfl<|dtN<|aK<|qkFld rfl<|qkLd 7 rfl<|qkMove rfl<|aF (cC (e:=g_) ([(cY .u32 r132 a20.1)]) [(0,vU (cY .u32 r132 a20.1))] rfl rfl rfl rfl (mT (vU (cY .u32 r132 a20.1)) rfl) rfl rfl rfl) rfl fun u145=>ckE h fun j147 h=>aF (fN 4 iP rfl rfl rfl (aP (aC.res 0 rfl) iP) rfl rfl rfl rfl j147 rfl) rfl fun u146=>qkFld rfl<|bY (Know.one ((aP (aC.res 4 rfl) iP))) fun ho148=>iQ 8 rfl rfl ho148 rfl rfl rfl<|dK<|inT<|aK<|qkAdd rfl<|qkMove rfl<|dtN ?_
     exact mO ((cY .u32 r132 a20.1),(a117.2.1++([(cY .u32 r132 a20.1)])),(wI .i64 (a117.2.2.1+(1:Int))),r135.1.1,r135.1.2.1,r135.1.2.2.1,r135.1.2.2.2.1,r135.1.2.2.2.2,r129,(a117.2.2.2.2.2.2.2.2.2++[a122])) (x131.1,x131.2,u142,u146) h SF (aV.ix [4,5,2,3,8,9,10,11,12,13,14,15,16,17,18,19,20,21,22] rfl rfl) (aD.refl _ _)
    refine eZ ?_
    exact bV (a117.2.1,a117.2.2.2.1,a117.2.2.2.2.1,a117.2.2.2.2.2.1,a117.2.2.2.2.2.2.1,a117.2.2.2.2.2.2.2.1,a117.2.2.2.2.2.2.2.2.1,a117.2.2.2.2.2.2.2.2.2) (b118.1,b118.2.1,b118.2.2.1,b118.2.2.2) h SF (aV.ix [0,1,2,3,4,5,7,17,18] rfl rfl) (aD.refl _ _)
   intro a94 b95 h
   unfold sD at h
   refine aG ?_
   refine JR.start [0,0,1,5,15,31] 4 mixedOrders (by decide +kernel) ?_
   refine JR.open (by exact rfl) ?_
   refine jkMove rfl<|jkLdA 1 rfl<|jkFld rfl<|bX (Know.one (aC.sl (bA (i:=2) (j:=3) rfl rfl cE))) fun ho97=>oW rfl rfl rfl (KG 4 rfl rfl ho97 rfl rfl rfl) (fun x96=>(m_ [([1],[])] rfl)) fun x96=>bH 4 rfl rfl<|qkFld rfl<|Oc (Gu 4 (us:=[vI (a94.2.1),vI (a94.2.2.1),vI (a94.2.2.2.1),vI (a94.2.2.2.2.1),vU (a94.2.2.2.2.2.1)]) rfl rfl rfl rfl rfl rfl rfl rfl rfl) fun x98=>dtN<|sqR<|qkLdA 4 rfl<|bY (Know.one ((aP (aC.res 8 rfl) iP))) fun ho99=>bY (Know.one ((aP (aC.res 0 rfl) iP))) fun ho100=>bY (Know.one (aC.sl (bA (i:=2) (j:=3) rfl rfl cE))) fun ho101=>bK 5 (vs:=[b95.2.2.1,b95.2.2.2,b95.1,vI (a94.2.1),vI (a94.2.2.1),vI (a94.2.2.2.1),vI (a94.2.2.2.2.1),vU (a94.2.2.2.2.2.1)]) rfl rfl (cK ho99 (cK ho100 (cK ho101 (cK rfl (cK rfl (cK rfl (cK rfl (cK rfl rfl)))))))) rfl rfl rfl<|qkAsg rfl<|dtN<|aR ?_
   exact zD (a94.2.2.2.2.2.2.2,a94.1,a94.2.2.2.2.2.2.1,a94.2.1,a94.2.2.1,a94.2.2.2.1,a94.2.2.2.2.1,a94.2.2.2.2.2.1,(0:Int)) (b95.2.2.1,b95.2.2.2,b95.1,b95.2.1) h (.inl rfl) (HX.r2 rfl (RV.cell 5 rfl rfl rfl rfl) (RV.tmp rfl)) rfl (aV.ix [6,7,8,0,2,3] rfl rfl) (aD.refl _ _)
  intro a57 b58 h
  unfold wB at h
  refine qkExt rfl<|qkExt rfl<|bY (Know.one ((aP (aC.res 2 rfl) iP))) fun ho59=>bY (Know.one ((aP (aC.res 3 rfl) iP))) fun ho60=>bY (Know.one (aC.sl (bA (i:=4) (j:=5) rfl rfl cE))) fun ho61=>bK 0 (vs:=[b58.1,b58.2.1,b58.2.2.1,vI (a57.2.2.2.1),vI (a57.2.2.2.2.1),vI (a57.2.2.2.2.2.1),vI (a57.2.2.2.2.2.2.1),vU (a57.2.2.2.2.2.2.2.1)]) rfl rfl (cK ho59 (cK ho60 (cK ho61 (cK rfl (cK rfl (cK rfl (cK rfl (cK rfl rfl)))))))) rfl rfl rfl<|qkAsg rfl<|dtN<|aR ?_
  exact zD (a57.2.2.2.1,a57.2.2.2.2.1,a57.2.2.2.2.2.1,a57.2.2.2.2.2.2.1,a57.2.2.2.2.2.2.2.1,a57.2.2.2.2.2.2.2.2,a57.1,a57.2.1,a57.2.2.1) (b58.1,b58.2.1,b58.2.2.1,b58.2.2.2) h (.inl rfl) (HX.r2 rfl (RV.cell 0 rfl rfl rfl rfl) (RV.tmp rfl)) rfl (aV.ix [1,2,3,4,5] rfl rfl) (aD.refl _ _)
 intro a35 b36 h
 unfold zP at h
 refine qkExt rfl<|qkExt rfl<|bY (Know.one ((aP (aC.res 1 rfl) iP))) fun ho37=>bY (Know.one ((aP (aC.res 2 rfl) iP))) fun ho38=>bY (Know.one (aC.sl (bA (i:=3) (j:=4) rfl rfl cE))) fun ho39=>bK 0 (vs:=[b36.1,b36.2.1,b36.2.2.1,vI (a35.1),vI (a35.2.1),vI (a35.2.2.1),vI (a35.2.2.2.1),vU (a35.2.2.2.2.1)]) rfl rfl (cK ho37 (cK ho38 (cK ho39 (cK rfl (cK rfl (cK rfl (cK rfl (cK rfl rfl)))))))) rfl rfl rfl<|qkAsg rfl<|dtN<|aR ?_
 cases h
 exact jJ (b36.1,b36.2.1,b36.2.2.1,b36.2.2.2) rfl rfl (RV.cell 0 rfl rfl rfl rfl) (RV.tmp rfl) (aV.ix [1,2,3,4] rfl rfl) aD.nil
end Go.Proofs.YtjlbcgddhnjcjaaGreatDoor
end
section
namespace Go.Proofs.YtjlbcgddhnjcjaaGreatDoor
open Go Go.Sx
section
theorem QF {g:GR} (hV:VG g) (p:zV) (kind:Int) (c:aY) (ws:aL):
  bE (kU 1000 p g kind c ws) 1000 ((0:Int),(0:Int),(List.replicate (Int.toNat (List.length g.2:Int)) ([]:aL)))=sE 1000 p g kind c ws (kL g g.2.length,eL g):=by
 have h24:=hV.n24
 have hlen:=hV.len
 let f:Nat->aL:=fun v=>(List.range (row g v).length).map (Oj g v)
 let Q:Nat->aY:=fun k=>(List.range k).map f++List.replicate (g.2.length - k) []
 have hQ:∀k,k<=g.2.length->(Q k).length=g.2.length:=fun k hk=>by simp[Q];omega
 rw[show List.replicate (Int.toNat (List.length g.2:Int)) ([]:aL)=Q 0 by simp[Q]]
 refine dJ (step:=kU 1000 p g kind c ws) g.2.length (fun k=>((k:Int),kL g k,Q k)) (fun k ag hk=> ?_) (fun ag=> ?_) 1000 (by omega)
 ·have hdeg:=(hV.node k hk).deg
  have hq:k<(Q k).length:=by rw[hQ k (by omega)];exact hk
  unfold kU
  dsimp only
  rw[if_pos (by omega),cN (by omega),cN (by omega)]
  let Rw:Nat->aL:=fun j=>(List.range j).map (Oj g k)
  have e0:Q k=(Q k).set k (Rw 0):=by
   have:at' (Q k) (k:Int)=Rw 0:=by
    rw[kC hq];simp[Q,Rw]
   rw[<-this]
   exact(Di (Q k) (k:Int) (by simpa using hq) (by omega)).symm
  rw[show(Q k)=(Q k).set k (Rw 0)from e0]
  have hgen:∀A:aY,A.length=g.2.length->bE (pQ 1000 g ((k:Int),kL g k,(Q k).set k (Rw 0)) ag) 1000 ((0:Int),A.set k (Rw 0))=ag (((k+1:Nat):Int),kL g (k+1),A.set k (f k)):=by
   intro A hA
   refine dJ (step:=pQ 1000 g ((k:Int),kL g k,(Q k).set k (Rw 0)) ag) (K:=ag (((k+1:Nat):Int),kL g (k+1),A.set k (f k))) (row g k).length (fun j=>((j:Int),A.set k (Rw j))) (fun j ag2 hj=> ?_) (fun ag2=> ?_) 1000 (by omega)
   ·obtain⟨u,hu,hue⟩:=hV.to hk hj
    have hdu:=(hV.node u hu).deg
    have a1:at' (A.set k (Rw j)) (k:Int)=Rw j:=by rw[vH _ _ _ _ (by omega),if_pos rfl]
    have hRl:(Rw j).length=j:=by simp[Rw]
    unfold pQ
    dsimp only
    rw[if_pos (show(j:Int)<((row g k).length:Int) by omega),cN (show 0<=(j:Int)∧(j:Int)<((row g k).length:Int) by omega),cN (by simp only[List.length_set];omega),show at' (at' g.2 (k:Int)) (j:Int)=iN (row g k) j from rfl,hue,bB (show qO 1000 _ (u:Int) (k:Int)=_ from QC g u (k:Int) hu (by omega)),a1,cN (by rw[hRl];simp;omega),cN (by simp only[List.length_set];omega),eB (by omega),Int.toNat_natCast,List.set_set]
    have:Rw j++[zL (row g u) (k:Int)]=Rw (j+1):=by
     simp only[Rw];rw[List.range_succ,List.map_append,List.map_singleton,Oj,hue,Int.toNat_natCast]
    rw[this]
   ·unfold pQ wE
    dsimp only
    rw[if_neg (show¬((row g k).length:Int)<((row g k).length:Int)from Int.lt_irrefl _),eB (by omega)]
    rfl
  have:=hgen (Q k) (hQ k (by omega))
  rw[wA f [] g.2.length k hk]at this
  exact this
 ·unfold kU
  dsimp only
  rw[if_neg (by omega)]
  simp[Q,eL,f]
def iH (g:GR):Nat:=2^g.2.length - 1
theorem UO {g:GR} (hV:VG g):iH g<4294967296:=by
 have h24:=hV.n24
 have:(2:Nat)^g.2.length<=2^24:=Nat.pow_le_pow_right (by omega) h24
 unfold iH;omega
section
variable {p:zV} {g:GR} {R:List RL}
theorem No (hV:VG g) (hp:Bq g p.2.1) (hz:p.2.2.map wN=Da R) (hR:xA p.2.1.length R=true) {kind:Int} (hk1:1<=kind) (hk4:kind<=4) {c0:List (List Int)} (hc0:KP g c0 p.2.1) {ws:List Int} (hws:ws.length<=900) (hw:∀k:Nat,k<ws.length->∃m:Nat,at' ws (k:Int)=(m:Int)∧m<4294967296)
  (P:Nat->List (List Int)->List Nat->CT->Prop) (h0:P 0 c0 [] (0,0,0,0,cY .u32 ((vL (bN p g) R (iH g) c0:Nat):Int) 16777215))
  (hstep:∀k c ch cnt t cnt' err,k<ws.length->rY g p.2.1.length c->P k c ch cnt->vL (bN p g) R (iH g) c≠0->t≠0->(∀i,t.testBit i=true->(vL (bN p g) R (iH g) c).testBit i=true)->(kind<=2->∀v u,t.testBit v=true->t.testBit u=true->¬BS g v u)->(kind=4->t=vL (bN p g) R (iH g) c)->(∃net,kG 1000 g=some net∧cV 1000 net kind ((vL (bN p g) R (iH g) c:Nat):Int) (at' ws (k:Int))=some (t:Int))->
   pP 1000 cnt (t:Int) ((vL (bN p g) R (iH g) (jU (bN p g) p.2.1 R c t):Nat):Int)=some (cnt',err)->P (k+1) (jU (bN p g) p.2.1 R c t) (ch++[t]) cnt'):
  ∃k c ch cnt ens,kS 1000 p g kind c0 ws=some ((Be ch,ens,c,cnt),0)∧P k c ch cnt∧rY g p.2.1.length c∧k<=ws.length∧ch.length=k∧ens.length=k+1∧at' ens (k:Int)=((vL (bN p g) R (iH g) c:Nat):Int)∧(k=ws.length∨vL (bN p g) R (iH g) c=0):=by
 have h24:=hV.n24
 have hvl:=hp.len
 let S:=bN p g
 have hVS:VG S.2.1:=hV
 obtain⟨net,hnet,hN⟩:=YE hV
 have hcheck:wQ 1000 p g kind c0 (ws.length:Int)=some 0:=by
  unfold wQ
  rw[bB (show qP 1000 _ _ c0=_ from Sr hV hp hc0),if_neg (by decide)]
  have:uK 1000 kind=some true:=by
   unfold uK oZ
   rw[if_pos hk1,decide_eq_true hk4]
  rw[bB this,if_neg (by decide),if_neg (by omega)]
 unfold kS
 rw[bB (show wQ 1000 _ _ kind c0 _=_ from hcheck),if_neg (by decide),cN (by omega),QF hV p kind c0 ws]
 unfold sE wD
 rw[bB (show lL 1000 _ _=_ from Mk hV hp)]
 unfold wC
 rw[bB (show kG 1000 _=_ from hnet),bB (show qN 1000 _=some ((iH g:Nat):Int)from RN hV)]
 have hen:∀c,rY g p.2.1.length c->dC 1000 (p,(p,g,kL g g.2.length,eL g),AR g p.2.1) c=some ((Zc S R c:Nat):Int):=fun c hc=>Nl hV hc hz hR (by simp[AR])
 have hand:∀c,cY .u32 ((Zc S R c:Nat):Int) ((iH g:Nat):Int)=((vL S R (iH g) c:Nat):Int):=fun c=>GD (Yf hVS R c) (UO hV)
 unfold zO
 dsimp only
 rw[bB (OC c0 (by rw[hc0.len];omega) (fun v hv=>by rw[hc0.row v (by rw[<-hc0.len];exact hv)];omega)),bB (show dC 1000 _ c0=_ from hen c0 hc0.shape),hand,bB (show sX 1000 _=some (0,0,0,0,cY .u32 ((vL S R (iH g) c0:Nat):Int) 16777215)from rfl),bB (show rD 1000 _ _ _=some ()from rfl),cN (by simp),List.nil_append]
 let A20:Int×List Int×(List (List (Int×Int)))×Int×List (List Int):=(((iH g:Nat):Int),net,AR g p.2.1,kL g g.2.length,eL g)
 have fin:∀k c ch cnt ens,P k c ch cnt->rY g p.2.1.length c->k<=ws.length->ch.length=k->ens.length=k+1->at' ens (k:Int)=((vL S R (iH g) c:Nat):Int)->(k=ws.length∨vL S R (iH g) c=0)->
   OK (fun r:(List Int×List Int×List (List Int)×CT)×Int=>∃k c ch cnt ens,r=((Be ch,ens,c,cnt),0)∧P k c ch cnt∧rY g p.2.1.length c∧k<=ws.length∧ch.length=k∧ens.length=k+1∧at' ens (k:Int)=((vL S R (iH g) c:Nat):Int)∧(k=ws.length∨vL S R (iH g) c=0)) (sD (ens,cnt.1,cnt.2.1,cnt.2.2.1,cnt.2.2.2.1,cnt.2.2.2.2,c,Be ch)):=
  fun k c ch cnt ens a1 a2 a3 a4 a5 a6 a7=>⟨_,rfl,k,c,ch,cnt,ens,rfl,a1,a2,a3,a4,a5,a6,a7⟩
 have key:=uG (step:=sF 1000 p g kind ws A20) (Q:=fun r:(List Int×List Int×List (List Int)×CT)×Int=>∃k c ch cnt ens,r=((Be ch,ens,c,cnt),0)∧P k c ch cnt∧rY g p.2.1.length c∧k<=ws.length∧ch.length=k∧ens.length=k+1∧at' ens (k:Int)=((vL S R (iH g) c:Nat):Int)∧(k=ws.length∨vL S R (iH g) c=0))
  (fun x=>∃(k:Nat) (c:List (List Int)) (ch:List Nat) (cnt:CT) (ens:List Int),x=(((vL S R (iH g) c:Nat):Int),ens,(k:Int),cnt.1,cnt.2.1,cnt.2.2.1,cnt.2.2.2.1,cnt.2.2.2.2,c,Be ch)∧P k c ch cnt∧rY g p.2.1.length c∧k<=ws.length∧ch.length=k∧ens.length=k+1∧at' ens (k:Int)=((vL S R (iH g) c:Nat):Int)) (fun x=>ws.length - x.2.2.1.toNat) (fun x ag hI hrec=>by
  obtain⟨k,c,ch,cnt,ens,rfl,b1,b2,b3,b4,b5,b6⟩:=hI
  unfold sF
  dsimp only
  by_cases hlt:k<ws.length
  rotate_left
  ·rw[if_neg (by omega)]
   exact fin k c ch cnt ens b1 b2 b3 b4 b5 b6 (.inl (by omega))
  obtain⟨w,hwe,hw32⟩:=hw k hlt
  have hin:Q_ g (vL S R (iH g) c):=Yg S R (iH g) c
  obtain⟨t,ht,hsub,hne⟩:=NJ hV hN hk1 hk4 hin hw32
  rw[if_pos (by omega),cN (by omega),hwe,bB (show cV 1000 net kind _ _=_ from ht)]
  unfold zQ
  dsimp only
  by_cases he0:vL S R (iH g) c=0
  ·rw[if_pos (by omega)]
   exact fin k c ch cnt ens b1 b2 b3 b4 b5 b6 (.inr he0)
  obtain⟨ht0,hperm,hk2,hk4'⟩:=hne he0
  have ht32:t<4294967296:=by have:=Q_.lt hV (fun i hi=>hin i (hsub i hi));omega
  rw[if_neg (by omega),bB (show eJ 1000 net kind _ _=_ from hperm),if_neg (by decide)]
  have hst:gS 1000 (p,(p,g,kL g g.2.length,eL g),AR g p.2.1) c (t:Int)=some (jU S p.2.1 R c t):=Wx (gr:=kL g g.2.length) hV hp b2 hz hR ht32 (fun v hv=>((Cc S R (iH g) c v).1 (hsub v hv)).2.1)
  have hsh:rY g p.2.1.length (jU S p.2.1 R c t):=b2.step
  obtain⟨⟨cnt',err⟩,hadd⟩:=RJ cnt ht32 ((vL S R (iH g) (jU S p.2.1 R c t):Nat):Int)
  rw[bB (show gS 1000 _ c (t:Int)=_ from hst),bB (show dC 1000 _ _=_ from hen _ hsh),hand,bB (show pP 1000 _ (t:Int) _=_ from hadd),bB (show rD 1000 _ _ _=some ()from rfl),cN (by simp[Be];omega),cN (by simp;omega),eB (by omega)]
  refine hrec _ ⟨k+1,jU S p.2.1 R c t,ch++[t],cnt',ens++[((vL S R (iH g) (jU S p.2.1 R c t):Nat):Int)],by simp[Be],hstep k c ch cnt t cnt' err hlt b2 b1 he0 ht0 hsub hk2 hk4' ⟨net,hnet,by rw[hwe];exact ht⟩ hadd,hsh,by omega,by simp[b4],by simp[b5],?_⟩ (by dsimp only;omega)
  exact JF (pre:=ens) (rest:=[]) (by simp) b5) 1000 (((vL S R (iH g) c0:Nat):Int),[((vL S R (iH g) c0:Nat):Int)],(0:Int),0,0,0,0,cY .u32 ((vL S R (iH g) c0:Nat):Int) 16777215,c0,[])
  ⟨0,c0,[],(0,0,0,0,cY .u32 ((vL S R (iH g) c0:Nat):Int) 16777215),[((vL S R (iH g) c0:Nat):Int)],rfl,h0,hc0.shape,by omega,rfl,rfl,rfl⟩ (by dsimp only;omega)
 obtain⟨r,hr,k,c,ch,cnt,ens,rfl,hrest⟩:=key
 exact⟨k,c,ch,cnt,ens,hr,hrest⟩
end
end
section
theorem Ww (p p':zV) (g:GR) (vars:List Dz) (R:List RL) (c:aY) (t:Nat):jU (bN p g) vars R c t=jU (bN p' g) vars R c t:=rfl
theorem OE (p p':zV) (g:GR) (R:List RL) (lv:Nat) (c:aY):vL (bN p g) R lv c=vL (bN p' g) R lv c:=rfl
noncomputable def nxt (g:GR) (kind:Int) (en:Nat) (w:Int):Nat:=(((kG 1000 g).bind fun net=>cV 1000 net kind (en:Int) w).getD 0).toNat
noncomputable def Bf (p:zV) (vars:List Dz) (R:List RL) (g:GR) (kind:Int) (ws:aL) (c0:aY):Nat->aY
 |0=>c0
 |k+1=>jU (bN p g) vars R (Bf p vars R g kind ws c0 k) (nxt g kind (vL (bN p g) R (iH g) (Bf p vars R g kind ws c0 k)) (at' ws (k:Int)))
theorem NN (p p':zV) (vars:List Dz) (R:List RL) (g:GR) (kind:Int) (ws:aL) (c0:aY) (k:Nat):Bf p vars R g kind ws c0 k=Bf p' vars R g kind ws c0 k:=by
 induction k with
 |zero=>rfl
 |succ k ih=>
  rw[Bf,Bf,ih,Ww p p',OE p p']
theorem Ha {p:zV} {g:GR} {R:List RL} (hV:VG g) (hp:Bq g p.2.1) (hz:p.2.2.map wN=Da R) (hR:xA p.2.1.length R=true) {kind:Int} (hk1:1<=kind) (hk4:kind<=4) {c0:aY} (hc0:KP g c0 p.2.1) {ws:aL} (hws:ws.length<=900) (hw:∀k:Nat,k<ws.length->∃m:Nat,at' ws (k:Int)=(m:Int)∧m<4294967296)
  (P:Nat->aY->mC->Prop) (h0:P 0 c0 [])
  (hstep:∀k c ch t,k<ws.length->rY g p.2.1.length c->P k c ch->vL (bN p g) R (iH g) c≠0->t≠0->(∀i,t.testBit i=true->(vL (bN p g) R (iH g) c).testBit i=true)->(kind<=2->∀v u,t.testBit v=true->t.testBit u=true->¬BS g v u)->P (k+1) (jU (bN p g) p.2.1 R c t) (ch++[t])):
  ∃k c ch cnt ens,kS 1000 p g kind c0 ws=some ((Be ch,ens,c,cnt),0)∧P k c ch∧rY g p.2.1.length c∧k<=ws.length∧ch.length=k∧ens.length=k+1∧at' ens (k:Int)=((vL (bN p g) R (iH g) c:Nat):Int)∧(k=ws.length∨vL (bN p g) R (iH g) c=0)∧c=Bf p p.2.1 R g kind ws c0 k∧∀j,j<k->vL (bN p g) R (iH g) (Bf p p.2.1 R g kind ws c0 j)≠0:=by
 obtain⟨k,c,ch,cnt,ens,h1,⟨h2,h2c,h2e⟩,h3,h4,h5,h6,h7,h8⟩:=No hV hp hz hR hk1 hk4 hc0 hws hw (fun k c ch _=>P k c ch∧c=Bf p p.2.1 R g kind ws c0 k∧∀j,j<k->vL (bN p g) R (iH g) (Bf p p.2.1 R g kind ws c0 j)≠0) ⟨h0,rfl,fun j hj=>by omega⟩
  (fun k c ch cnt t cnt' err hk hsh hI hne ht0 hsub hind _ hres _=>by
   obtain⟨a,rfl,b⟩:=hI
   obtain⟨net,hn,hr⟩:=hres
   refine⟨hstep k _ ch t hk hsh a hne ht0 hsub hind,?_,fun j hj=> ?_⟩
   ·have:nxt g kind (vL (bN p g) R (iH g) (Bf p p.2.1 R g kind ws c0 k)) (at' ws (k:Int))=t:=by
     unfold nxt
     rw[bB hn,hr];simp
    rw[Bf,this]
   ·by_cases e:j<k
    ·exact b j e
    ·obtain rfl:j=k:=by omega
     exact hne)
 exact⟨k,c,ch,cnt,ens,h1,h2,h3,h4,h5,h6,h7,h8,h2c,h2e⟩
theorem exZ (D:Ji):∃z:List rX,z.map wN=D:=by
 refine⟨D.map fun d=>(ByteArray.mk #[],(.bool true,d.1),(.bool true,d.2.map fun s=>(s.1,(.bool true,s.2)))),?_⟩
 rw[List.map_map]
 conv=>rhs;rw[<-List.map_id D]
 refine List.map_congr_left fun d _=> ?_
 show(d.1,(d.2.map fun s=>(s.1,((.bool true:Value),s.2))).map fun s=>(s.1,s.2.2))=d
 rw[List.map_map]
 exact Prod.ext rfl (by
  conv=>rhs;rw[<-List.map_id d.2]
  rfl)
theorem TS {p p':zV} {g:GR} {R:List RL} {vars:List Dz} {kind:Int} {ws:aL} {c0:aY} {k k':Nat} {c c':aY}
  (hk:k<=ws.length) (he:k=ws.length∨vL (bN p g) R (iH g) c=0) (hc:c=Bf p vars R g kind ws c0 k) (hj:∀j,j<k->vL (bN p g) R (iH g) (Bf p vars R g kind ws c0 j)≠0)
  (hk':k'<=ws.length) (he':k'=ws.length∨vL (bN p' g) R (iH g) c'=0) (hc':c'=Bf p' vars R g kind ws c0 k') (hj':∀j,j<k'->vL (bN p' g) R (iH g) (Bf p' vars R g kind ws c0 j)≠0):c=c':=by
 have hkk:k=k':=by
  rcases Nat.lt_trichotomy k k' with q|q|q
  ·have:=hj' k q
   rw[NN p' p,<-hc,OE p' p]at this
   rcases he with e|e
   ·omega
   ·exact absurd e this
  ·exact q
  ·have:=hj k' q
   rw[NN p p',<-hc',OE p p']at this
   rcases he' with e|e
   ·omega
   ·exact absurd e this
 subst hkk
 rw[hc,hc',NN p p']
end
end Go.Proofs.YtjlbcgddhnjcjaaGreatDoor
end
section
namespace Go.Proofs.YtjlbcgddhnjcjaaGreatDoor
open Go.Sx
section
def rJ  (a2:Bool):Option (Bool):=
 some (a2)
def mY (U:Nat) (p0:Int) (p1:Int):Option (Bool):=
 if(0:Int)<=p1 then(if p1<(32:Int)then(ck (0<=(wI .u64 p1)) (rJ  (decide ((cY .u32 (qA .u32 p0 (wI .u64 p1)) (1:Int))=(1:Int)))))else(rJ  (false)))else(rJ  (false))
theorem GE:aQ Tryz.prog 31:=Tryz.call31
theorem wT (U:Nat) {p0:Int} {p1:Int} (r:Bool) (h:mY U p0 p1=some r):
  aS Tryz.prog 31 #[vU (p0),vI (p1)] [] (fun x:Unit=>vB (r)) (fun x l=>l) (fun _ l=>l):=by
 refine aS.of Tryz.func31 rfl Tryz.ntmps31 rfl fun c=>?_
 refine sqR<|qkAsg rfl<|dtN<|aG<|midU (fun a2=>rJ  a2=some r) (fun a2 b3=>[(4,vB (a2))]) (fun a2 b3=>[]) ?_ ?_
 ·refine aK<|qkMove rfl<|aB (Bt rfl rfl) rfl<|qkMove rfl ?_
  refine AW h rfl (fun _ h=>?_) fun _ h=>?_
  ·refine gyMove rfl<|aN rfl (Bu rfl rfl) rfl<|qkPkT rfl<|qkMove rfl ?_
   refine AW h rfl (fun _ h=>?_) fun _ h=>?_
   ·refine gyMove rfl<|gyMove rfl<|aN rfl (Gz rfl rfl rfl) rfl<|ckE h fun j6 h=>aN rfl (DF rfl rfl j6) rfl<|aN rfl (La rfl rfl) rfl<|aN rfl (Iz rfl rfl) rfl<|qkPkT rfl<|qkAsg rfl<|dtN ?_
    exact fM (decide ((cY .u32 (qA .u32 p0 (wI .u64 p1)) (1:Int))=(1:Int))) () h SF rfl
   refine gdSkip rfl<|gdSkip rfl<|gdSkip rfl<|gdSkip rfl<|gdSkip rfl<|gdSkip rfl<|qkPkF rfl<|qkAsg rfl<|dtN ?_
   exact fM (false) () h SF rfl
  refine gdSkip rfl<|gdSkip rfl<|qkPkF rfl<|qkMove rfl<|gdSkip rfl<|gdSkip rfl<|gdSkip rfl<|gdSkip rfl<|gdSkip rfl<|gdSkip rfl<|qkPkF rfl<|qkAsg rfl<|dtN ?_
  exact fM (false) () h SF rfl
 intro a2 b3 h
 unfold rJ at h
 refine aR ?_
 cases h
 exact kH rfl
end
section
def tF  (a3:aL):Option aL:=
 some (a3)
def pJ (a9:aL×Int) (ag8:(aL×Int)->Option aL) (a15:aL):Option aL:=
 ag8 (a15,(wI .i64 (a9.2+(1:Int))))
def mN (p0:aL) (p1:Int) (a9:aL×Int) (ag8:(aL×Int)->Option aL):Option aL:=
 if a9.2<p1 then(if(List.length p0:Int)=(0:Int)then(ck ((List.length a9.1:Int)+(List.length ([(4294967295:Int)]):Int)<=1099511627) (pJ a9 ag8 (a9.1++([(4294967295:Int)]))))else(ck ((List.length p0:Int)≠0) (ck (0<=(Int.tmod a9.2 (List.length p0:Int))∧(Int.tmod a9.2 (List.length p0:Int))<(List.length p0:Int)) (ck ((List.length p0:Int)≠0) (ck ((24:Int)≠0) (ck (0<=(wI .u64 (Int.tmod (wI .i64 (Int.tdiv a9.2 (List.length p0:Int))) (24:Int)))) (ck (0<=(wI .u64 ((24:Int) - (wI .u64 (Int.tmod (wI .i64 (Int.tdiv a9.2 (List.length p0:Int))) (24:Int)))))) (ck ((List.length a9.1:Int)+(List.length ([(cY .u32 (EC .u32 (uX .u32 (cY .u32 (at' p0 (Int.tmod a9.2 (List.length p0:Int))) (16777215:Int)) (wI .u64 (Int.tmod (wI .i64 (Int.tdiv a9.2 (List.length p0:Int))) (24:Int)))) (qA .u32 (cY .u32 (at' p0 (Int.tmod a9.2 (List.length p0:Int))) (16777215:Int)) (wI .u64 ((24:Int) - (wI .u64 (Int.tmod (wI .i64 (Int.tdiv a9.2 (List.length p0:Int))) (24:Int))))))) (16777215:Int))]):Int)<=1099511627) (pJ a9 ag8 (a9.1++([(cY .u32 (EC .u32 (uX .u32 (cY .u32 (at' p0 (Int.tmod a9.2 (List.length p0:Int))) (16777215:Int)) (wI .u64 (Int.tmod (wI .i64 (Int.tdiv a9.2 (List.length p0:Int))) (24:Int)))) (qA .u32 (cY .u32 (at' p0 (Int.tmod a9.2 (List.length p0:Int))) (16777215:Int)) (wI .u64 ((24:Int) - (wI .u64 (Int.tmod (wI .i64 (Int.tdiv a9.2 (List.length p0:Int))) (24:Int))))))) (16777215:Int))])))))))))))else(tF  (a9.1))
def jT (U:Nat) (p0:aL) (p1:Int):Option aL:=
 bE (mN p0 p1) U (([]:aL),(0:Int))
theorem CZ:aQ Tryz.prog 16:=Tryz.call16
theorem lS (U:Nat) {p0:aL} {p1:Int} (v0:Value) (r:aL) (h:jT U p0 p1=some r):
  aS Tryz.prog 16 #[v0,vI (p1)] [Sl tJ v0 p0] (fun x:Value=>x) (fun x l=>Ar g_ x r::l) (fun _ l=>l):=by
 refine aS.of Tryz.func16 rfl Tryz.ntmps16 rfl fun c=>?_
 unfold jT at h
 refine sqR<|qkAsg rfl<|dtN<|sqR<|qkAsg rfl<|dtN<|aG<|midL (B:=Value) (fun a3=>tF  a3=some r) (fun a3 b4=>[(5,b4)]) (fun a3 b4=>[Ar g_ b4 a3]) ?_ ?_
 ·refine sqR<|qkAsg rfl<|dtN<|aO<|iR (iF g_)<|loopL (B:=Value) (mN p0 p1) (fun a9 b10=>[(0,v0),(1,vI (p1)),(5,b10),(6,vI (a9.2))]) (fun a9 b10=>[Ar g_ b10 a9.1]) (([]:aL),(0:Int)) (kT) h SF (aV.refl _) ?_
  intro k11 a9 b10 h
  refine aG<|sqR<|qkMove rfl<|qkMove rfl<|qkLss rfl<|dtN ?_
  refine eF h rfl (fun h=>?_) fun h=>?_
  ·refine cJ<|aG<|midL (B:=Value) (fun a15=>pJ a9 (bE (mN p0 p1) k11) a15=some r) (fun a15 b16=>[(0,v0),(1,vI (p1)),(5,b16),(6,vI (a9.2))]) (fun a15 b16=>[Ar g_ b16 a15]) ?_ ?_
   ·refine aO<|aG<|sqR<|qkMove rfl<|qkLen (aC.fact 0 rfl) rfl<|qkEql rfl<|dtN ?_
    refine eF h rfl (fun h=>?_) fun h=>?_
    ·refine sqR<|qkMove rfl<|aF (cC (e:=g_) ([(4294967295:Int)]) [(0,vU (4294967295:Int))] rfl rfl rfl rfl (mT (vU (4294967295:Int)) rfl) rfl rfl rfl) rfl fun u18=>ckE h fun j20 h=>aF (fN 1 iP rfl rfl rfl (aP (aC.res 0 rfl) iP) rfl rfl rfl rfl j20 rfl) rfl fun u19=>qkAsg rfl<|dtN<|qE<|eC<|wK<|xI ?_
     exact bV (a9.1++([(4294967295:Int)])) (u19) h SF (aV.ix [1] rfl rfl) (aD.refl _ _)
    refine cJ<|aG ?_
    refine JR.start [0,0,0,4,14,31,63,0,0,256,896,1920,3968,127,16383] 14 mixedOrders (by decide +kernel) ?_
    refine JR.open (by exact rfl) ?_
    refine jkMove rfl<|jkMove rfl<|jkMove rfl<|bI rfl .nil (oK 0 rfl) (fI rfl (aC.fact 0 rfl) rfl) aM.z<|ckE h fun j21 h=>jqN rfl (Lh rfl rfl j21)<|ckE h fun j22 h=>bI rfl .nil (oK 0 rfl) (aX rfl rfl (aC.fact 0 rfl) rfl rfl j22) aM.z<|bI rfl .nil (oK 0 rfl) (bQ rfl (aC.fact 0 rfl) rfl rfl rfl Bn j22) aM.z<|jkMove rfl<|jkMove rfl<|bI rfl .nil (oK 0 rfl) (fI rfl (aC.fact 0 rfl) rfl) aM.z<|ckE h fun j23 h=>jqN rfl (RI rfl rfl j23)<|ckE h fun j24 h=>jqN rfl (Lh rfl rfl j24)<|jqN rfl (Gz rfl rfl rfl)<|jqN rfl (nS rfl)<|bH 14 rfl rfl<|qkAsg rfl<|dtN<|sqR<|qkMove rfl<|qkAnd rfl<|qkAsg rfl<|dtN<|aK<|qkMove rfl<|qkMove rfl<|qkMove rfl<|ckE h fun j25 h=>aB (DD rfl rfl j25) rfl<|qkMove rfl<|qkMove rfl<|aB (pT rfl rfl) rfl<|ckE h fun j26 h=>aB (DF rfl rfl j26) rfl<|aB (Lg rfl rfl) rfl<|qkAnd rfl<|aF (cC (e:=g_) ([(cY .u32 (EC .u32 (uX .u32 (cY .u32 (at' p0 (Int.tmod a9.2 (List.length p0:Int))) (16777215:Int)) (wI .u64 (Int.tmod (wI .i64 (Int.tdiv a9.2 (List.length p0:Int))) (24:Int)))) (qA .u32 (cY .u32 (at' p0 (Int.tmod a9.2 (List.length p0:Int))) (16777215:Int)) (wI .u64 ((24:Int) - (wI .u64 (Int.tmod (wI .i64 (Int.tdiv a9.2 (List.length p0:Int))) (24:Int))))))) (16777215:Int))]) [(0,vU (cY .u32 (EC .u32 (uX .u32 (cY .u32 (at' p0 (Int.tmod a9.2 (List.length p0:Int))) (16777215:Int)) (wI .u64 (Int.tmod (wI .i64 (Int.tdiv a9.2 (List.length p0:Int))) (24:Int)))) (qA .u32 (cY .u32 (at' p0 (Int.tmod a9.2 (List.length p0:Int))) (16777215:Int)) (wI .u64 ((24:Int) - (wI .u64 (Int.tmod (wI .i64 (Int.tdiv a9.2 (List.length p0:Int))) (24:Int))))))) (16777215:Int)))] rfl rfl rfl rfl (mT (vU (cY .u32 (EC .u32 (uX .u32 (cY .u32 (at' p0 (Int.tmod a9.2 (List.length p0:Int))) (16777215:Int)) (wI .u64 (Int.tmod (wI .i64 (Int.tdiv a9.2 (List.length p0:Int))) (24:Int)))) (qA .u32 (cY .u32 (at' p0 (Int.tmod a9.2 (List.length p0:Int))) (16777215:Int)) (wI .u64 ((24:Int) - (wI .u64 (Int.tmod (wI .i64 (Int.tdiv a9.2 (List.length p0:Int))) (24:Int))))))) (16777215:Int))) rfl) rfl rfl rfl) rfl fun u27=>ckE h fun j29 h=>aF (fN 1 iP rfl rfl rfl (aP (aC.res 0 rfl) iP) rfl rfl rfl rfl j29 rfl) rfl fun u28=>qkAsg rfl<|dK<|inT ?_
    exact bV (a9.1++([(cY .u32 (EC .u32 (uX .u32 (cY .u32 (at' p0 (Int.tmod a9.2 (List.length p0:Int))) (16777215:Int)) (wI .u64 (Int.tmod (wI .i64 (Int.tdiv a9.2 (List.length p0:Int))) (24:Int)))) (qA .u32 (cY .u32 (at' p0 (Int.tmod a9.2 (List.length p0:Int))) (16777215:Int)) (wI .u64 ((24:Int) - (wI .u64 (Int.tmod (wI .i64 (Int.tdiv a9.2 (List.length p0:Int))) (24:Int))))))) (16777215:Int))])) (u28) h SF (aV.ix [1] rfl rfl) (aD.refl _ _)
   intro a15 b16 h
   unfold pJ at h
   refine aK<|qkMove rfl<|qkAdd rfl<|qkAsg rfl<|dtN ?_
   exact xV (a15,(wI .i64 (a9.2+(1:Int)))) (b16) h SF rfl
  refine eZ ?_
  exact fM (a9.1) (b10) h SF rfl
 intro a3 b4 h
 unfold tF at h
 refine sqR<|qkMove rfl<|qkAsg rfl<|dtN<|aR ?_
 cases h
 exact gC (b4) rfl rfl (RV.tmp rfl) (aV.refl _) aD.nil
end
end Go.Proofs.YtjlbcgddhnjcjaaGreatDoor
end
section
namespace Go.Proofs.YtjlbcgddhnjcjaaGreatDoor
open Go Go.Sx
section
theorem JI (f:Nat) {m v:Nat} (hm:m<4294967296) (hv:v<32):mY f (m:Int) (v:Int)=some (m.testBit v):=by
 unfold mY rJ
 rw[if_pos (by omega),if_pos (by omega),adt hv,cN (by omega)]
 congr 1
 rw[Bool.eq_iff_iff,decide_eq_true_eq]
 exact Hf hv hm
theorem Mz (x:Int):0<=wI .u64 x:=by
 rw[CR]
 have:IntKind.u64.wrap x=x%18446744073709551616:=rfl
 rw[this];omega
theorem Jo (l:aL) {n:Nat} (hn:n<=900):∃ws,jT 1000 l (n:Int)=some ws∧ws.length=n∧∀k:Nat,k<ws.length->∃m:Nat,at' ws (k:Int)=(m:Int)∧m<4294967296:=by
 unfold jT
 obtain⟨⟨ws,i⟩,⟨hi,hl,hb⟩,he⟩:=uF (step:=mN l (n:Int)) (K:=fun z=>some z.1) n
  (fun k z=>z.2=(k:Int)∧z.1.length=k∧∀j:Nat,j<k->∃m:Nat,at' z.1 (j:Int)=(m:Int)∧m<4294967296) (fun k z ag hk hI=>by
  obtain⟨ws,i⟩:=z
  obtain⟨hi,hl,hb⟩:=hI
  dsimp only at hi hl hb
  subst hi
  have snoc:∀m:Nat,m<4294967296->∀j:Nat,j<k+1->∃m':Nat,at' (ws++[(m:Int)]) (j:Int)=(m':Int)∧m'<4294967296:=fun m hm j hj=>by
   rw[Gj ws _ (by omega)]
   by_cases e:j<ws.length
   ·rw[if_pos e];exact hb j (by omega)
   ·rw[if_neg e];exact⟨m,rfl,hm⟩
  have hin:∀m:Nat,(List.length ws:Int)+(List.length [(m:Int)]:Int)<=1099511627:=fun m=>by simp;omega
  unfold mN pJ
  dsimp only
  rw[if_pos (by omega),eB (by omega)]
  by_cases h0:l.length=0
  ·rw[if_pos (by omega),cN (show(List.length ws:Int)+(List.length [(4294967295:Int)]:Int)<=1099511627 from hin 4294967295)]
   exact⟨_,⟨rfl,by simp[hl],snoc 4294967295 (by omega)⟩,rfl⟩
  ·have e1:Int.tmod (k:Int) (l.length:Int)=((k%l.length:Nat):Int):=rfl
   have hlt:k%l.length<l.length:=Nat.mod_lt _ (by omega)
   rw[if_neg (by omega),cN (by omega),cN (by rw[e1];omega),cN (by omega),cN (by decide),cN (Mz _),cN (Mz _)]
   have hX:∀X:Int,∃m:Nat,cY .u32 X (16777215:Int)=(m:Int)∧m<4294967296:=fun X=>⟨_,FX _ _,Nat.lt_of_le_of_lt Nat.and_le_left (Jy _)⟩
   obtain⟨m,hm,hm32⟩:=hX (EC .u32 (uX .u32 (cY .u32 (at' l (Int.tmod (k:Int) (l.length:Int))) (16777215:Int)) (wI .u64 (Int.tmod (wI .i64 (Int.tdiv (k:Int) (l.length:Int))) (24:Int)))) (qA .u32 (cY .u32 (at' l (Int.tmod (k:Int) (l.length:Int))) (16777215:Int)) (wI .u64 ((24:Int) - (wI .u64 (Int.tmod (wI .i64 (Int.tdiv (k:Int) (l.length:Int))) (24:Int)))))))
   rw[hm,cN (hin m)]
   exact⟨_,⟨rfl,by simp[hl],snoc m hm32⟩,rfl⟩) (fun z ag hI=>by
  obtain⟨ws,i⟩:=z
  obtain⟨hi,hl,hb⟩:=hI
  dsimp only at hi
  subst hi
  unfold mN tF
  dsimp only
  rw[if_neg (by omega)]) 1000 (([]:aL),(0:Int)) ⟨rfl,rfl,fun j hj=>by omega⟩ (by omega)
 exact⟨ws,he,hl,fun k hk=>hb k (by dsimp only at hl;omega)⟩
theorem Mg {α:Type} [Inhabited α] (l:List α) {k:Nat} (h:k<l.length):l.set k (at' l (k:Int))=l:=by
 have:=Di l (k:Int) (by simpa using h) (by omega)
 simpa using this

def nX (ch:mC) (v:Nat):Nat:=ch.countP fun t=>t.testBit v
theorem EI (ch:mC) (t v:Nat):nX (ch++[t]) v=nX ch v+if t.testBit v=true then 1 else 0:=by
 unfold nX
 rw[List.countP_append]
 cases h:t.testBit v<;>simp[h]
def QS (f:Nat->Nat):Nat->Nat
 |0=>0
 |n+1=>QS f n+f n
theorem YV {f:Nat->Nat}:∀{n:Nat},(∀v,v<n->f v<=1)->QS f n<=n
 |0,_=>Nat.le_refl 0
 |n+1,h=>by
  have:=YV (n:=n) fun v hv=>h v (by omega)
  have:=h n (by omega)
  simp only[QS];omega
theorem Ks {f:Nat->Nat} {b:Nat}:∀{n:Nat},(∀v,v<n->f v<=b)->QS f n<=b*n
 |0,_=>Nat.zero_le _
 |n+1,h=>by
  have:=Ks (n:=n) fun v hv=>h v (by omega)
  have:=h n (by omega)
  simp only[QS,Nat.mul_succ];omega
theorem Ml {f h:Nat->Nat}:∀{n:Nat},(∀v,v<n->f v<=h v)->QS f n<=QS h n
 |0,_=>Nat.le_refl 0
 |n+1,k=>by
  have:=Ml (n:=n) fun v hv=>k v (by omega)
  have:=k n (by omega)
  simp only[QS];omega
theorem TZ {f h:Nat->Nat}:∀{n:Nat} {u:Nat},(∀v,v<n->f v<=h v)->u<n->f u<h u->QS f n<QS h n
 |0,u,_,hu,_=>absurd hu (Nat.not_lt_zero u)
 | n + 1, u, k, hu, hl => by
  simp only[QS]
  by_cases e:u=n
  ·subst e
   have:=Ml (n:=u) fun v hv=>k v (by omega)
   omega
  ·have:=TZ (n:=n) (u:=u) (fun v hv=>k v (by omega)) (by omega) hl
   have:=k n (by omega)
   omega
def t_ (c:aY) (v:Nat):Int:=at' (at' c (v:Int)) 0
def NE (g:GR) (c:aY) (v i:Nat):Int:=at' (at' c (iN (row g v) i).1) 0
theorem oT {g:GR} {c:aY} {v i u:Nat} (h:(iN (row g v) i).1=(u:Int)):NE g c v i=t_ c u:=by unfold NE t_;rw[h]
end
section
def guL:E:= .bi 41 (.lf 5 0) (.ag 21 (.lf 12 0))
def guE:E:= .bi 41 (.un 19 (.lf 5 0)) (.un 19 (.ag 21 (.lf 12 0)))
def RM:List RL:=[(guL,[(0,.lf 3 0)]),(guE,[(0,.lf 2 0)])]
theorem Po:xA 1 RM=true:=by decide +kernel
theorem loM (g:GR) (v:Nat):lo g (at' jL ((0:Nat):Int)) v=0:=rfl
theorem hiM (g:GR) (v:Nat):hi g (at' jL ((0:Nat):Int)) v=1:=rfl
theorem Xl {g:GR} (hV:VG g):Bq g jL:=by
 have h24:=hV.n24
 refine⟨by decide,Pr,fun x hx=> ?_,fun x hx _=> ?_⟩
 ·obtain rfl:x=0:=by simp[jL]at hx;exact hx
  exact .inr (.inl rfl)
 ·obtain rfl:x=0:=by simp[jL]at hx;exact hx
  rw[loM,hiM];omega
def HZ (g:GR) (c:aY) (v:Nat):Prop:=∃i,i<(row g v).length∧NE g c v i≠0
section
variable {p:zV} {g:GR} {c:List (List Int)} {v:Nat}
theorem Yp:vA (bN p g) c v guL=JG (decide (t_ c v≠0)&&decide (JG (((List.range (row g v).length).map fun q=>NE g c v q).any nz)≠0)):=rfl
theorem Yo:vA (bN p g) c v guE=JG (decide (JG (decide (t_ c v=0))≠0)&&decide (JG (decide (JG (((List.range (row g v).length).map fun q=>NE g c v q).any nz)=0))≠0)):=rfl
theorem GC (b:Bool):JG b≠0↔b=true:=by cases b<;>simp[JG]
theorem ZJ (b:Bool):JG b=0↔b=false:=by cases b<;>simp[JG]
theorem RP:((List.range (row g v).length).map fun q=>NE g c v q).any nz=true↔HZ g c v:=by
 unfold HZ
 rw[List.any_eq_true]
 constructor
 ·rintro⟨x,hx,hn⟩
  obtain⟨i,hi,rfl⟩:=List.mem_map.1 hx
  exact⟨i,List.mem_range.1 hi,by simpa [nz]using hn⟩
 ·rintro⟨i,hi,hn⟩
  exact⟨_,List.mem_map.2 ⟨i,List.mem_range.2 hi,rfl⟩,by simpa [nz]using hn⟩
theorem UQ:((List.range (row g v).length).map fun q=>NE g c v q).any nz=false↔¬HZ g c v:=by
 rw[<-RP];simp
theorem OO:vA (bN p g) c v guL≠0↔t_ c v≠0∧HZ g c v:=by
 rw[Yp,GC,Bool.and_eq_true,decide_eq_true_eq,decide_eq_true_eq,GC,RP]
theorem ON:vA (bN p g) c v guE≠0↔t_ c v=0∧¬HZ g c v:=by
 rw[Yo,GC,Bool.and_eq_true,decide_eq_true_eq,decide_eq_true_eq,GC,GC,decide_eq_true_eq,decide_eq_true_eq,ZJ,UQ]
theorem LZ (h:0<=rO (bN p g) RM c v):(rO (bN p g) RM c v=0∧t_ c v≠0∧HZ g c v)∨(rO (bN p g) RM c v=1∧t_ c v=0∧¬HZ g c v):=by
 obtain⟨i,h1,h2,h3⟩:=(Hz (bN p g) RM c v).resolve_left (fun e=>by omega)
 have h2:i<2:=h2
 match i,h2 with
 |0,_=>exact .inl ⟨h1,OO.1 h3⟩
 |1,_=>exact .inr ⟨h1,ON.1 h3⟩
theorem Je (h:¬0<=rO (bN p g) RM c v):HZ g c v↔t_ c v=0:=by
 have e:rO (bN p g) RM c v = -1:=by
  rcases Hz (bN p g) RM c v with e|⟨i,h1,_⟩
  ·exact e
  ·omega
 have a0:¬vA (bN p g) c v guL≠0:=fun q=>q (HA.1 e 0 (by decide))
 have a1:¬vA (bN p g) c v guE≠0:=fun q=>q (HA.1 e 1 (by decide))
 rw[OO]at a0
 rw[ON]at a1
 by_cases hn:HZ g c v
 ·exact iff_of_true hn (Decidable.not_not.1 fun q=>a0 ⟨q,hn⟩)
 ·exact iff_of_false hn (fun q=>a1 ⟨q,hn⟩)
theorem WY (hr:(at' c (v:Int)).length=1):at' (Ag (bN p g) jL RM c v 0) 0=0:=by
 have e:Ag (bN p g) jL RM c v 0=(at' c (v:Int)).set 0 0:=rfl
 rw[e]
 have:=vH (at' c (v:Int)) 0 0 (0:Int) (by omega)
 rw[if_pos rfl]at this
 exact this
theorem WZ (hr:(at' c (v:Int)).length=1):at' (Ag (bN p g) jL RM c v 1) 0=1:=by
 have e:Ag (bN p g) jL RM c v 1=(at' c (v:Int)).set 0 1:=rfl
 rw[e]
 have:=vH (at' c (v:Int)) 0 0 (1:Int) (by omega)
 rw[if_pos rfl]at this
 exact this
end
structure MP (g:GR) (lv:Nat) (c0:List (List Int)) (k:Nat) (c:List (List Int)) (ch:List Nat):Prop where
 r:KP g c jL
 st:∀v,v<g.2.length->(nX ch v=0∧t_ c v=t_ c0 v)∨(lv.testBit v=true∧((nX ch v=1∧t_ c v=0)∨(nX ch v<=2∧t_ c v≠0∧¬HZ g c v)))
 sum:k<=QS (nX ch) g.2.length
 sets:∀t∈ch,t<4294967296
theorem MP.two {g:GR} {lv k:Nat} {c0 c:List (List Int)} {ch:List Nat} (h:MP g lv c0 k c ch) {v:Nat} (hv:v<g.2.length):nX ch v<=2:=by
 rcases h.st v hv with a|⟨_,a|a⟩
 ·omega
 ·omega
 ·exact a.1
theorem Xe {p:zV} {g:GR} (hV:VG g) {lv k t:Nat} {c0 c:List (List Int)} {ch:List Nat} (hI:MP g lv c0 k c ch) (ht0:t≠0) (hsub:∀i,t.testBit i=true->(vL (bN p g) RM lv c).testBit i=true) (hind:∀v u,t.testBit v=true->t.testBit u=true->¬BS g v u):MP g lv c0 (k+1) (jU (bN p g) jL RM c t) (ch++[t]):=by
 have hcl:=hI.r.len
 have hin:∀v,t.testBit v=true->v<g.2.length∧0<=rO (bN p g) RM c v∧lv.testBit v=true:=fun v hv=>(Cc (bN p g) RM lv c v).1 (hsub v hv)
 have hcnt:∀v,nX (ch++[t]) v=nX ch v+if t.testBit v=true then 1 else 0:=EI ch t
 have hrow:∀v,v<g.2.length->(at' c (v:Int)).length=1:=fun v hv=>hI.r.row v hv
 have hat:∀v,v<g.2.length->at' (jU (bN p g) jL RM c t) (v:Int)=if t.testBit v=true then Ag (bN p g) jL RM c v (rO (bN p g) RM c v)else at' c (v:Int):=fun v hv=>HC (by rw[hcl];exact hv)
 have hcol1:∀v,t.testBit v=true->(t_ c v≠0∧HZ g c v∧t_ (jU (bN p g) jL RM c t) v=0)∨(t_ c v=0∧¬HZ g c v∧t_ (jU (bN p g) jL RM c t) v=1):=fun v hv=>by
  obtain⟨h1,h2,_⟩:=hin v hv
  unfold t_
  rw[hat v h1,if_pos hv]
  rcases LZ h2 with⟨e,a,b⟩|⟨e,a,b⟩
  ·rw[e];exact .inl ⟨a,b,WY (hrow v h1)⟩
  ·rw[e];exact .inr ⟨a,b,WZ (hrow v h1)⟩
 have hcol0:∀v,v<g.2.length->t.testBit v=false->t_ (jU (bN p g) jL RM c t) v=t_ c v:=fun v hv hb=>by
  unfold t_
  rw[hat v hv,if_neg (by rw[hb];decide)]
 have ht32:t<4294967296:=by have:=Q_.lt hV (fun i hi=>(hin i hi).1);omega
 -- neighbours of a node without members around it stay out
 have hout:∀v,v<g.2.length->¬HZ g c v->(∀u,BS g v u->t.testBit u=false)->¬HZ g (jU (bN p g) jL RM c t) v:=fun v hv hn hq=>by
  rintro⟨i,hi,he⟩
  obtain⟨u,hu,hue,hadj⟩:=hV.port hv hi
  rw[oT hue,hcol0 u hu (hq u hadj)]at he
  exact hn ⟨i,hi,by rw[oT hue];exact he⟩
 refine⟨⟨by rw[Jf,hcl],fun v hv=> ?_,fun v hv x hx=> ?_⟩,fun v hv=> ?_,?_,fun s hs=> ?_⟩
 ·rw[hat v hv]
  split
  ·rw[IY];exact hrow v hv
  ·exact hrow v hv
 ·obtain rfl:x=0:=by simp[jL]at hx;exact hx
  rw[loM,hiM]
  show 0<=t_ (jU (bN p g) jL RM c t) v∧t_ (jU (bN p g) jL RM c t) v<=_
  cases hb:t.testBit v with
  |true=>rcases hcol1 v hb with⟨_,_,e⟩|⟨_,_,e⟩<;>rw[e]<;>omega
  |false=>
   have:=hI.r.ok v hv 0 (by decide)
   rw[loM,hiM]at this
   rw[hcol0 v hv hb];exact this
 ·rw[hcnt]
  cases hb:t.testBit v with
  | true =>
   obtain⟨_,_,hl⟩:=hin v hb
   rw[if_pos rfl]
   rcases hcol1 v hb with⟨a,b,e⟩|⟨a,b,e⟩
   ·rcases hI.st v hv with q|⟨_,q|q⟩
    ·exact .inr ⟨hl,.inl ⟨by omega,e⟩⟩
    ·exact absurd q.2 a
    ·exact absurd b q.2.2
   ·have hno:¬HZ g (jU (bN p g) jL RM c t) v:=hout v hv b fun u hadj=>by
     cases hq:t.testBit u with
     |false=>rfl
     |true=>exact absurd hadj (hind v u hb hq)
    have h2:nX ch v+1<=2:=by
     rcases hI.st v hv with q|⟨_,q|q⟩
     ·omega
     ·omega
     ·exact absurd a q.2.1
    exact .inr ⟨hl,.inr ⟨h2,by rw[e];decide,hno⟩⟩
  | false =>
   rw[if_neg (by decide),Nat.add_zero,hcol0 v hv hb]
   rcases hI.st v hv with q|⟨hl,q|q⟩
   ·exact .inl q
   ·exact .inr ⟨hl,.inl q⟩
   ·refine .inr ⟨hl,.inr ⟨q.1,q.2.1,hout v hv q.2.2 fun u hadj=> ?_⟩⟩
    cases hub:t.testBit u with
    |false=>rfl
    | true =>
     obtain⟨j,hj,hjv⟩:=hV.back hv hadj
     have hnu:HZ g c u:=⟨j,hj,by rw[oT hjv];exact q.2.1⟩
     rcases hcol1 u hub with⟨a,b,_⟩|⟨a,b,_⟩
     ·obtain⟨i,hi,hiu⟩:=hadj
      exact absurd ⟨i,hi,by rw[oT hiu];exact a⟩ q.2.2
     ·exact absurd hnu b
 ·obtain⟨u,hu⟩:=Hm ht0
  have hun:=(hin u hu.bit).1
  have:=TZ (f:=nX ch) (h:=nX (ch++[t])) (n:=g.2.length) (u:=u) (fun v _=>by rw[hcnt];omega) hun (by rw[hcnt,if_pos hu.bit];omega)
  have:=hI.sum
  omega
 ·rcases List.mem_append.1 hs with h|h
  ·exact hI.sets s h
  ·rw[List.mem_singleton.1 h];exact ht32
end
section
def Zb (g:GR) (c:aY) (v:Nat):Prop:=t_ c v≠0∧¬HZ g c v
def KA (g:GR) (cl d:aY) (v:Nat):Prop:=t_ d v=t_ cl v∧∀u,BS g v u->t_ d u=t_ cl u
def Rs (g:GR) (c:aY):Prop:=∀v,v<g.2.length->(HZ g c v↔t_ c v=0)
section
variable {p:zV} {g:GR} {c:List (List Int)} {lv t:Nat}
theorem Fc (hr:KP g c jL) (hsub:∀i,t.testBit i=true->(vL (bN p g) RM lv c).testBit i=true):
  (∀v,t.testBit v=true->v<g.2.length∧((t_ c v≠0∧HZ g c v∧t_ (jU (bN p g) jL RM c t) v=0)∨(t_ c v=0∧¬HZ g c v∧t_ (jU (bN p g) jL RM c t) v=1)))∧∀v,v<g.2.length->t.testBit v=false->t_ (jU (bN p g) jL RM c t) v=t_ c v:=by
 have hcl:=hr.len
 have hat:∀v,v<g.2.length->at' (jU (bN p g) jL RM c t) (v:Int)=if t.testBit v=true then Ag (bN p g) jL RM c v (rO (bN p g) RM c v)else at' c (v:Int):=fun v hv=>HC (by rw[hcl];exact hv)
 refine⟨fun v hv=> ?_,fun v hv hb=> ?_⟩
 ·obtain⟨h1,h2,_⟩:=(Cc (bN p g) RM lv c v).1 (hsub v hv)
  refine⟨h1,?_⟩
  unfold t_
  rw[hat v h1,if_pos hv]
  rcases LZ h2 with⟨e,a,b⟩|⟨e,a,b⟩
  ·rw[e];exact .inl ⟨a,b,WY (hr.row v h1)⟩
  ·rw[e];exact .inr ⟨a,b,WZ (hr.row v h1)⟩
 ·unfold t_
  rw[hat v hv,if_neg (by rw[hb];decide)]
variable (hV:VG g) (hr:KP g c jL) (hsub:∀i,t.testBit i=true->(vL (bN p g) RM lv c).testBit i=true)
 include hV hr hsub
theorem Xd {v:Nat} (hv:v<g.2.length) (h:Zb g c v):t.testBit v=false∧Zb g (jU (bN p g) jL RM c t) v:=by
 obtain⟨h1,h0⟩:=Fc hr hsub
 have hb:t.testBit v=false:=by
  cases hb:t.testBit v with
  |false=>rfl
  |true=>
   rcases(h1 v hb).2 with⟨_,q,_⟩|⟨q,_,_⟩
   ·exact absurd q h.2
   ·exact absurd q h.1
 refine⟨hb,by rw[h0 v hv hb];exact h.1,?_⟩
 rintro⟨i,hi,he⟩
 obtain⟨u,hu,hue,hadj⟩:=hV.port hv hi
 rw[oT hue]at he
 cases hub:t.testBit u with
 |false=>
  rw[h0 u hu hub]at he
  exact h.2 ⟨i,hi,by rw[oT hue];exact he⟩
 | true =>
  rcases(h1 u hub).2 with⟨_,_,q⟩|⟨_,q,_⟩
  ·exact he q
  ·obtain⟨j,hj,hjv⟩:=hV.back hv hadj
   exact q ⟨j,hj,by rw[oT hjv];exact h.1⟩
theorem enterM (hind:∀v u,t.testBit v=true->t.testBit u=true->¬BS g v u) {v:Nat} (hb:t.testBit v=true) (h:t_ c v=0):Zb g (jU (bN p g) jL RM c t) v:=by
 obtain⟨h1,h0⟩:=Fc hr hsub
 obtain⟨hv,q⟩:=h1 v hb
 rcases q with⟨q,_⟩|⟨_,hn,e⟩
 ·exact absurd h q
 ·refine⟨by rw[e];decide,?_⟩
  rintro⟨i,hi,he⟩
  obtain⟨u,hu,hue,hadj⟩:=hV.port hv hi
  have hub:t.testBit u=false:=by
   cases hq:t.testBit u with
   |false=>rfl
   |true=>exact absurd hadj (hind v u hb hq)
  rw[oT hue,h0 u hu hub]at he
  exact hn ⟨i,hi,by rw[oT hue];exact he⟩
end
structure UA (g:GR) (lv:Nat) (cl d:List (List Int)) (k:Nat) (c:List (List Int)) (ch:List Nat):Prop where
 m:MP g lv d k c ch
 fa:∀v,v<g.2.length->KA g cl d v->t_ cl v≠0->nX ch v=0∧Zb g c v
 fb:∀v,v<g.2.length->KA g cl d v->t_ cl v=0->(nX ch v=0∧t_ c v=0)∨(nX ch v=1∧Zb g c v)
 fc:∀v,v<g.2.length->KA g cl d v->(∀u,BS g v u->KA g cl d u)->nX ch v=0
theorem YQ {g:GR} (hV:VG g) {lv:Nat} {cl d:List (List Int)} (hl:Rs g cl) (hd:KP g d jL):UA g lv cl d 0 d []:=by
 refine⟨⟨hd,fun v _=> .inl ⟨by simp[nX],rfl⟩,by omega,fun t h=>by cases h⟩,fun v hv hf hc=>⟨by simp[nX],?_⟩,fun v hv hf hc=> .inl ⟨by simp[nX],by rw[hf.1];exact hc⟩,fun v _ _ _=>by simp[nX]⟩
 refine⟨by rw[hf.1];exact hc,?_⟩
 rintro⟨i,hi,he⟩
 obtain⟨u,hu,hue,hadj⟩:=hV.port hv hi
 rw[oT hue,hf.2 u hadj]at he
 exact hc ((hl v hv).1 ⟨i,hi,by rw[oT hue];exact he⟩)
theorem aar {p:zV} {g:GR} (hV:VG g) {lv k t:Nat} {cl d c:List (List Int)} {ch:List Nat} (hl:Rs g cl) (hI:UA g lv cl d k c ch) (ht0:t≠0) (hsub:∀i,t.testBit i=true->(vL (bN p g) RM lv c).testBit i=true) (hind:∀v u,t.testBit v=true->t.testBit u=true->¬BS g v u):UA g lv cl d (k+1) (jU (bN p g) jL RM c t) (ch++[t]):=by
 have hr:=hI.m.r
 obtain⟨h1,h0⟩:=Fc hr hsub
 have hcnt:∀v,nX (ch++[t]) v=nX ch v+if t.testBit v=true then 1 else 0:=EI ch t
 have off:∀v,t.testBit v=false->nX (ch++[t]) v=nX ch v:=fun v hb=>by rw[hcnt,if_neg (by rw[hb];decide)];rfl
 have fa':∀v,v<g.2.length->KA g cl d v->t_ cl v≠0->nX (ch++[t]) v=0∧Zb g (jU (bN p g) jL RM c t) v:=fun v hv hf hc=>by
  obtain⟨a,b⟩:=hI.fa v hv hf hc
  obtain⟨e,b'⟩:=Xd hV hr hsub hv b
  exact⟨by rw[off v e];exact a,b'⟩
 refine⟨Xe hV hI.m ht0 hsub hind,fa',fun v hv hf hc=> ?_,fun v hv hf hn=> ?_⟩
 ·rcases hI.fb v hv hf hc with⟨a,b⟩|⟨a,b⟩
  ·cases hb:t.testBit v with
   |false=>exact .inl ⟨by rw[off v hb];exact a,by rw[h0 v hv hb];exact b⟩
   |true=>exact .inr ⟨by rw[hcnt,if_pos hb,a],enterM hV hr hsub hind hb b⟩
  ·obtain⟨e,b'⟩:=Xd hV hr hsub hv b
   exact .inr ⟨by rw[off v e];exact a,b'⟩
 ·by_cases hc:t_ cl v=0
  ·obtain⟨i,hi,he⟩:=(hl v hv).2 hc
   obtain⟨u,hu,hue,hadj⟩:=hV.port hv hi
   rw[oT hue]at he
   have hst:=(hI.fa u hu (hn u hadj) he).2
   have hnb:HZ g c v:=⟨i,hi,by rw[oT hue];exact hst.1⟩
   have h00:=hI.fc v hv hf hn
   have hcv:t_ c v=0:=by
    rcases hI.fb v hv hf hc with⟨_,b⟩|⟨a,_⟩
    ·exact b
    ·omega
   have hb:t.testBit v=false:=by
    cases hb:t.testBit v with
    |false=>rfl
    |true=>
     rcases(h1 v hb).2 with⟨q,_⟩|⟨_,q,_⟩
     ·exact absurd hcv q
     ·exact absurd hnb q
   rw[off v hb];exact h00
  ·exact(fa' v hv hf hc).1
end
end Go.Proofs.YtjlbcgddhnjcjaaGreatDoor
end
section
namespace Go.Proofs.YtjlbcgddhnjcjaaGreatDoor
open Go.Sx
section
noncomputable def kY (a16:CN) (a19:Bool):Option (aY×Bool):=
 some (a16.2.2.2.2.2.2.2.2,a19)
noncomputable def rC  (a16:CN):Option (aY×Bool):=
 if a16.1=(0:Int)then(if(0:Int)<(List.length a16.2.2.2.2.2.2.2.1:Int)then(ck (0<=(wI .i64 ((List.length a16.2.2.2.2.2.2.2.1:Int) - (1:Int)))∧(wI .i64 ((List.length a16.2.2.2.2.2.2.2.1:Int) - (1:Int)))<(List.length a16.2.2.2.2.2.2.2.1:Int)) (kY a16 (decide ((at' a16.2.2.2.2.2.2.2.1 (wI .i64 ((List.length a16.2.2.2.2.2.2.2.1:Int) - (1:Int))))=(0:Int)))))else(kY a16 (false)))else(kY a16 (false))
noncomputable def mI (U:Nat) (p0:ByteArray) (p1:cW) (p2:aY):Option (aY×Bool):=
 Option.bind (mJ U p0) fun r24=>PS r24.2.2 fun z27=>(Option.bind (jT U ([]:aL) (60:Int)) fun r29=>(Option.bind (kS U ((r24.1,r24.2.1,z27)) ((p1.1,p1.2)) (1:Int) p2 r29) fun r32=>(rC  (r32.2,r32.1.2.2.2.1,r32.1.2.2.2.2.1,r32.1.2.2.2.2.2.1,r32.1.2.2.2.2.2.2.1,r32.1.2.2.2.2.2.2.2,r32.1.1,r32.1.2.1,r32.1.2.2.1))))
theorem XD:aQ Tryz.prog 26:=Tryz.call26
theorem FL (U:Nat) {p0:ByteArray} {p1:cW} {p2:aY} (v0:Value)  (v1:Value)  (z2:mB)  (v3:Value)  (z4:pW) (r:aY×Bool) (h:mI U p0 p1 p2=some r):
  aS Tryz.prog 26 #[vS (p0),Value.agg #[v0,v1],v3] [Sl bD v0 p1.1,S2 a_ v1 z2 p1.2,S2 bD v3 z4 p2,Gb 0 (cellsOf BV pV)] (fun x:CP=>Value.tuple #[x.1,vB (r.2)]) (fun x l=>Ar cR.raw x.1 x.2::gZ bO x.2 r.1::l) (fun _ l=>l):=by
 refine aS.of Tryz.func26 rfl Tryz.ntmps26 rfl fun c=>?_
 unfold mI at h
 refine sqR<|aF (aJ.box (cs:=[v0,v1]) rfl rfl) rfl fun b1=>qkAsg rfl<|qkAsg rfl<|dtN<|aG<|midL (B:=Nat×Value×Value×Value×List Value) (fun a16=>rC  a16=some r) (fun a16 b17=>[(8,vP b17.1),(9,vI (a16.1))]) (fun a16 b17=>[bS b17.1 [b17.2.1,b17.2.2.1,b17.2.2.2.1,vI (a16.2.1),vI (a16.2.2.1),vI (a16.2.2.2.1),vI (a16.2.2.2.2.1),vU (a16.2.2.2.2.2.1)] 63,Ar g_ b17.2.1 a16.2.2.2.2.2.2.1,Ar g_ b17.2.2.1 a16.2.2.2.2.2.2.2.1,Ar cR.raw b17.2.2.2.1 b17.2.2.2.2,gZ bO b17.2.2.2.2 a16.2.2.2.2.2.2.2.2]) ?_ ?_
 ·have⟨r24,w25,h⟩:=bnd h
  refine Ey [0,1,0,0,3,31,63,127,127,0,767,2047] 11 [[0,2,3,1,4,5,6,7,8,9,10,11],[0,2,3,1,4,9,5,6,7,8,10,11],[0,2,3,1,9,4,5,6,7,8,10,11],[0,2,3,9,1,4,5,6,7,8,10,11]] mixedOrders (by decide +kernel) (by decide +kernel) ?_
  intro o ho
  simp only[List.mem_cons,List.not_mem_nil,or_false]at ho
  rcases ho with rfl|rfl|rfl|rfl
  ·refine jkMove rfl<|jkLdA 0 rfl<|jkMove rfl<|JR.loud rfl rfl rfl (aJ.call EF (pH U r24 w25) rfl (oK 3 rfl) (fun _ _=>rfl) (fun _ _=>rfl)) rfl (fun⟨x40a,x40b,z27,hz41⟩=>(m_ [([0],[])] rfl)) fun⟨x40a,x40b,z27,hz41⟩=>?_
   have h:=zZ h z27 hz41
   refine bnE h fun r29 w30 h=>JR.loud rfl rfl rfl (aJ.callQ CZ (lS U (kT) r29 w30) rfl (aD.cons aC.nil .nil)) rfl (fun x42=>(m_ [([1],[])] rfl)) fun x42=>bnE h fun r32 w33 h=>JR.loud rfl rfl rfl (aJ.callQ C_ (oU U x40a x40b v0 v1 z2 v3 z4 x42 r32 w33) rfl (aD.cons (aC.fact 0 rfl) (aD.cons (aC.fact 1 rfl) (aD.cons (aC.fact 2 rfl) (aD.cons (aC.fact 3 rfl) (aD.cons (aC.fact 4 rfl) (aD.cons (aC.fact 5 rfl) (aD.cons (aP (aC.res 0 rfl) iP) (lH [6] rfl))))))))) rfl (fun x43=>(m_ [] rfl)) fun x43=>jqN rfl (fO rfl)<|jqN rfl (eP rfl rfl)<|jqN rfl (eP rfl rfl)<|JR.loud rfl rfl rfl (aJ.alloc (cs:=CQ) rfl rfl) rfl (fun b44=>(m_ [([6],[])] rfl)) fun b44=>bX (Know.one ((aP (aC.res 1 rfl) iP))) fun ho46=>bX (Know.one ((aP (aC.res 2 rfl) iP))) fun ho47=>bX (Know.one (aC.sl (bA (i:=3) (j:=4) rfl rfl cE))) fun ho48=>oW rfl rfl rfl (nC 0 (vs:=[x43.1,x43.2.1,x43.2.2.1,vI (r32.1.2.2.2.1),vI (r32.1.2.2.2.2.1),vI (r32.1.2.2.2.2.2.1),vI (r32.1.2.2.2.2.2.2.1),vU (r32.1.2.2.2.2.2.2.2)]) rfl rfl (cK ho46 (cK ho47 (cK ho48 (cK rfl (cK rfl (cK rfl (cK rfl (cK rfl rfl)))))))) rfl rfl rfl) (fun x45=>(m_ [] rfl)) fun x45=>bH 11 rfl rfl<|qkAsg rfl<|dtN ?_
   exact bV (r32.2,r32.1.2.2.2.1,r32.1.2.2.2.2.1,r32.1.2.2.2.2.2.1,r32.1.2.2.2.2.2.2.1,r32.1.2.2.2.2.2.2.2,r32.1.1,r32.1.2.1,r32.1.2.2.1) (b44,x43.1,x43.2.1,x43.2.2.1,x43.2.2.2) h SF (aV.ix [0,1,2,3,4] rfl rfl) (lH [3,4,5,6] rfl)
  ·refine jkMove rfl<|jkLdA 0 rfl<|jkMove rfl<|JR.loud rfl rfl rfl (aJ.call EF (pH U r24 w25) rfl (oK 3 rfl) (fun _ _=>rfl) (fun _ _=>rfl)) rfl (fun⟨x49a,x49b,z27,hz50⟩=>(m_ [([0],[])] rfl)) fun⟨x49a,x49b,z27,hz50⟩=>?_
   have h:=zZ h z27 hz50
   refine bnE h fun r29 w30 h=>JR.loud rfl rfl rfl (aJ.callQ CZ (lS U (kT) r29 w30) rfl (aD.cons aC.nil .nil)) rfl (fun x51=>(m_ [([1],[])] rfl)) fun x51=>JR.loud rfl rfl rfl (aJ.alloc (cs:=CQ) rfl rfl) rfl (fun b52=>(m_ [([2],[])] rfl)) fun b52=>bnE h fun r32 w33 h=>JR.loud rfl rfl rfl (aJ.callQ C_ (oU U x49a x49b v0 v1 z2 v3 z4 x51 r32 w33) rfl (aD.cons (aC.fact 0 rfl) (aD.cons (aC.fact 1 rfl) (aD.cons (aC.fact 2 rfl) (aD.cons (aC.fact 3 rfl) (aD.cons (aC.fact 4 rfl) (aD.cons (aC.fact 5 rfl) (aD.cons (aP (aC.res 1 rfl) iP) (lH [6] rfl))))))))) rfl (fun x53=>(m_ [] rfl)) fun x53=>jqN rfl (fO rfl)<|jqN rfl (eP rfl rfl)<|jqN rfl (eP rfl rfl)<|bX (Know.one ((aP (aC.res 0 rfl) iP))) fun ho55=>bX (Know.one ((aP (aC.res 1 rfl) iP))) fun ho56=>bX (Know.one (aC.sl (bA (i:=2) (j:=3) rfl rfl cE))) fun ho57=>oW rfl rfl rfl (nC 4 (vs:=[x53.1,x53.2.1,x53.2.2.1,vI (r32.1.2.2.2.1),vI (r32.1.2.2.2.2.1),vI (r32.1.2.2.2.2.2.1),vI (r32.1.2.2.2.2.2.2.1),vU (r32.1.2.2.2.2.2.2.2)]) rfl rfl (cK ho55 (cK ho56 (cK ho57 (cK rfl (cK rfl (cK rfl (cK rfl (cK rfl rfl)))))))) rfl rfl rfl) (fun x54=>(m_ [] rfl)) fun x54=>bH 11 rfl rfl<|qkAsg rfl<|dtN ?_
   exact bV (r32.2,r32.1.2.2.2.1,r32.1.2.2.2.2.1,r32.1.2.2.2.2.2.1,r32.1.2.2.2.2.2.2.1,r32.1.2.2.2.2.2.2.2,r32.1.1,r32.1.2.1,r32.1.2.2.1) (b52,x53.1,x53.2.1,x53.2.2.1,x53.2.2.2) h SF (aV.ix [4,0,1,2,3] rfl rfl) (lH [3,4,5,6] rfl)
  ·refine jkMove rfl<|jkLdA 0 rfl<|jkMove rfl<|JR.loud rfl rfl rfl (aJ.call EF (pH U r24 w25) rfl (oK 3 rfl) (fun _ _=>rfl) (fun _ _=>rfl)) rfl (fun⟨x58a,x58b,z27,hz59⟩=>(m_ [([0],[])] rfl)) fun⟨x58a,x58b,z27,hz59⟩=>?_
   have h:=zZ h z27 hz59
   refine JR.loud rfl rfl rfl (aJ.alloc (cs:=CQ) rfl rfl) rfl (fun b60=>(m_ [([1],[])] rfl)) fun b60=>bnE h fun r29 w30 h=>JR.loud rfl rfl rfl (aJ.callQ CZ (lS U (kT) r29 w30) rfl (aD.cons aC.nil .nil)) rfl (fun x61=>(m_ [([2],[])] rfl)) fun x61=>bnE h fun r32 w33 h=>JR.loud rfl rfl rfl (aJ.callQ C_ (oU U x58a x58b v0 v1 z2 v3 z4 x61 r32 w33) rfl (aD.cons (aC.fact 0 rfl) (aD.cons (aC.fact 1 rfl) (aD.cons (aC.fact 2 rfl) (aD.cons (aC.fact 3 rfl) (aD.cons (aC.fact 4 rfl) (aD.cons (aC.fact 5 rfl) (aD.cons (aP (aC.res 0 rfl) iP) (lH [6] rfl))))))))) rfl (fun x62=>(m_ [] rfl)) fun x62=>jqN rfl (fO rfl)<|jqN rfl (eP rfl rfl)<|jqN rfl (eP rfl rfl)<|bX (Know.one ((aP (aC.res 0 rfl) iP))) fun ho64=>bX (Know.one ((aP (aC.res 1 rfl) iP))) fun ho65=>bX (Know.one (aC.sl (bA (i:=2) (j:=3) rfl rfl cE))) fun ho66=>oW rfl rfl rfl (nC 5 (vs:=[x62.1,x62.2.1,x62.2.2.1,vI (r32.1.2.2.2.1),vI (r32.1.2.2.2.2.1),vI (r32.1.2.2.2.2.2.1),vI (r32.1.2.2.2.2.2.2.1),vU (r32.1.2.2.2.2.2.2.2)]) rfl rfl (cK ho64 (cK ho65 (cK ho66 (cK rfl (cK rfl (cK rfl (cK rfl (cK rfl rfl)))))))) rfl rfl rfl) (fun x63=>(m_ [] rfl)) fun x63=>bH 11 rfl rfl<|qkAsg rfl<|dtN ?_
   exact bV (r32.2,r32.1.2.2.2.1,r32.1.2.2.2.2.1,r32.1.2.2.2.2.2.1,r32.1.2.2.2.2.2.2.1,r32.1.2.2.2.2.2.2.2,r32.1.1,r32.1.2.1,r32.1.2.2.1) (b60,x62.1,x62.2.1,x62.2.2.1,x62.2.2.2) h SF (aV.ix [5,0,1,2,3] rfl rfl) (lH [3,4,5,6] rfl)
  refine jkMove rfl<|jkLdA 0 rfl<|jkMove rfl<|JR.loud rfl rfl rfl (aJ.alloc (cs:=CQ) rfl rfl) rfl (fun b67=>(m_ [([1],[])] rfl)) fun b67=>JR.loud rfl rfl rfl (aJ.call EF (pH U r24 w25) rfl (oK 3 rfl) (fun _ _=>rfl) (fun _ _=>rfl)) rfl (fun⟨x68a,x68b,z27,hz69⟩=>(m_ [([1],[])] rfl)) fun⟨x68a,x68b,z27,hz69⟩=>?_
  have h:=zZ h z27 hz69
  refine bnE h fun r29 w30 h=>JR.loud rfl rfl rfl (aJ.callQ CZ (lS U (kT) r29 w30) rfl (aD.cons aC.nil .nil)) rfl (fun x70=>(m_ [([2],[])] rfl)) fun x70=>bnE h fun r32 w33 h=>JR.loud rfl rfl rfl (aJ.callQ C_ (oU U x68a x68b v0 v1 z2 v3 z4 x70 r32 w33) rfl (aD.cons (aC.fact 0 rfl) (aD.cons (aC.fact 1 rfl) (aD.cons (aC.fact 2 rfl) (aD.cons (aC.fact 3 rfl) (aD.cons (aC.fact 4 rfl) (aD.cons (aC.fact 5 rfl) (aD.cons (aP (aC.res 0 rfl) iP) (lH [6] rfl))))))))) rfl (fun x71=>(m_ [] rfl)) fun x71=>jqN rfl (fO rfl)<|jqN rfl (eP rfl rfl)<|jqN rfl (eP rfl rfl)<|bX (Know.one ((aP (aC.res 0 rfl) iP))) fun ho73=>bX (Know.one ((aP (aC.res 1 rfl) iP))) fun ho74=>bX (Know.one (aC.sl (bA (i:=2) (j:=3) rfl rfl cE))) fun ho75=>oW rfl rfl rfl (nC 5 (vs:=[x71.1,x71.2.1,x71.2.2.1,vI (r32.1.2.2.2.1),vI (r32.1.2.2.2.2.1),vI (r32.1.2.2.2.2.2.1),vI (r32.1.2.2.2.2.2.2.1),vU (r32.1.2.2.2.2.2.2.2)]) rfl rfl (cK ho73 (cK ho74 (cK ho75 (cK rfl (cK rfl (cK rfl (cK rfl (cK rfl rfl)))))))) rfl rfl rfl) (fun x72=>(m_ [] rfl)) fun x72=>bH 11 rfl rfl<|qkAsg rfl<|dtN ?_
  exact bV (r32.2,r32.1.2.2.2.1,r32.1.2.2.2.2.1,r32.1.2.2.2.2.2.1,r32.1.2.2.2.2.2.2.1,r32.1.2.2.2.2.2.2.2,r32.1.1,r32.1.2.1,r32.1.2.2.1) (b67,x71.1,x71.2.1,x71.2.2.1,x71.2.2.2) h SF (aV.ix [5,0,1,2,3] rfl rfl) (lH [3,4,5,6] rfl)
 intro a16 b17 h
 unfold rC at h
 refine aG<|midU (fun a19=>kY a16 a19=some r) (fun a19 b20=>[(6,b17.2.2.2.1),(7,vB (a19))]) (fun a19 b20=>[Ar cR.raw b17.2.2.2.1 b17.2.2.2.2,gZ bO b17.2.2.2.2 a16.2.2.2.2.2.2.2.2]) ?_ ?_
 ·refine JR.start [0,1,0,4,12,28,60,124,252,508,1020,2044,4092,2044,10236,26620,59388,131068,262140,524284,1048572,2047,4194303] 22 mixedOrders (by decide +kernel) ?_
  refine JR.open (by exact rfl) ?_
  refine jkFld rfl<|jkLd 0 rfl<|jkMove rfl<|jqN rfl (Iz rfl rfl)<|jkMove rfl ?_
  refine Ew (by exact rfl) (by exact rfl) (by exact rfl) (fun hp21=>?_) (fun hp21=>?_)
  ·have h:=Kw hp21 h
   refine kB rfl .nil .nil (dY rfl rfl rfl rfl rfl) aM.z<|kB rfl (aV.cons 0 rfl .nil) .nil (eX 0 rfl rfl rfl rfl rfl) aM.z<|kB rfl (aV.cons 2 rfl .nil) .nil (fI rfl (aP (aC.res 0 rfl) iP) rfl) aM.z<|kB rfl .nil .nil (rZ rfl rfl) aM.z<|jqN rfl (yT rfl rfl)<|jkMove rfl ?_
   refine Ew (by exact rfl) (by exact rfl) (by exact rfl) (fun hp22=>?_) (fun hp22=>?_)
   ·have h:=Kw hp22 h
    refine kB rfl .nil .nil (dY rfl rfl rfl rfl rfl) aM.z<|kB rfl (aV.cons 0 rfl .nil) .nil (eX 0 rfl rfl rfl rfl rfl) aM.z<|kB rfl .nil .nil (dY rfl rfl rfl rfl rfl) aM.z<|kB rfl (aV.cons 0 rfl .nil) .nil (eX 0 rfl rfl rfl rfl rfl) aM.z<|kB rfl (aV.cons 2 rfl .nil) .nil (fI rfl (aP (aC.res 0 rfl) iP) rfl) aM.z<|kB rfl .nil .nil (pT rfl rfl) aM.z<|ckE h fun j23 h=>kB rfl (aV.cons 2 rfl .nil) .nil (aX rfl rfl (aP (aC.res 0 rfl) iP) rfl rfl j23) aM.z<|kB rfl (aV.cons 2 rfl .nil) .nil (bQ rfl (aP (aC.res 0 rfl) iP) rfl rfl rfl Bn j23) aM.z<|kB rfl .nil .nil (Iz rfl rfl) aM.z<|jqN rfl (yT rfl rfl)<|jqN rfl (nS rfl)<|bH 22 rfl rfl<|qkAsg rfl<|dtN ?_
    exact bV (decide ((at' a16.2.2.2.2.2.2.2.1 (wI .i64 ((List.length a16.2.2.2.2.2.2.2.1:Int) - (1:Int))))=(0:Int))) () h SF (aV.ix [3,4] rfl rfl) (aD.refl _ _)
   have h:=Yq hp22 h
   refine b_ rfl rfl rfl rfl<|b_ rfl rfl rfl rfl<|b_ rfl rfl rfl rfl<|b_ rfl rfl rfl rfl<|b_ rfl rfl rfl rfl<|b_ rfl rfl rfl rfl<|b_ rfl rfl rfl rfl<|b_ rfl rfl rfl rfl<|b_ rfl rfl rfl rfl<|jqN rfl (xN rfl rfl)<|jqN rfl (nS rfl)<|bH 22 rfl rfl<|qkAsg rfl<|dtN ?_
   exact bV (false) () h SF (aV.ix [3,4] rfl rfl) (aD.refl _ _)
  have h:=Yq hp21 h
  refine b_ rfl rfl rfl rfl<|b_ rfl rfl rfl rfl<|b_ rfl rfl rfl rfl<|b_ rfl rfl rfl rfl<|jqN rfl (xN rfl rfl)<|jkMove rfl<|b_ rfl rfl rfl rfl<|b_ rfl rfl rfl rfl<|b_ rfl rfl rfl rfl<|b_ rfl rfl rfl rfl<|b_ rfl rfl rfl rfl<|b_ rfl rfl rfl rfl<|b_ rfl rfl rfl rfl<|b_ rfl rfl rfl rfl<|b_ rfl rfl rfl rfl<|jqN rfl (xN rfl rfl)<|jqN rfl (nS rfl)<|bH 22 rfl rfl<|qkAsg rfl<|dtN ?_
  exact bV (false) () h SF (aV.ix [3,4] rfl rfl) (aD.refl _ _)
 intro a19 b20 h
 unfold kY at h
 refine aR ?_
 cases h
 exact jJ (b17.2.2.2.1,b17.2.2.2.2) rfl rfl (RV.tmp rfl) (RV.tmp rfl) (aV.refl _) aD.nil
end
section
def sW  (a4:aY):Option aY:=
 some (a4)
def pD (a11:aY×Int) (ag10:(aY×Int)->Option aY) (a20:aL):Option aY:=
 ck ((List.length a11.1:Int)+(List.length ([a20]):Int)<=1099511627) (ag10 ((a11.1++[a20]),(wI .i64 (a11.2+(1:Int)))))
def kE (U:Nat) (p0:aY) (p2:aL) (p3:Int) (a11:aY×Int) (ag10:(aY×Int)->Option aY) (a29:Bool):Option aY:=
 if a29=true then(ck (0<=a11.2∧a11.2<(List.length p2:Int)) (Option.bind (eN U (at' p2 a11.2) p3) fun r33=>(ck (0<=(0:Int)∧(0:Int)<(List.length (([]:aL)++(at' p0 a11.2)):Int)) (pD a11 ag10 (List.set (([]:aL)++(at' p0 a11.2)) (Int.toNat (0:Int)) r33)))))else(pD a11 ag10 (([]:aL)++(at' p0 a11.2)))
def kF (U:Nat) (p0:aY) (p1:Int) (p2:aL) (p3:Int) (a11:aY×Int) (ag10:(aY×Int)->Option aY):Option aY:=
 if a11.2<(List.length p0:Int)then(ck (0<=a11.2∧a11.2<(List.length p0:Int)) (ck ((List.length ([]:aL):Int)+(List.length (at' p0 a11.2):Int)<=1099511627) (Option.bind (mY U p1 a11.2) fun r37=>(if r37=true then(if a11.2<(List.length p2:Int)then(kE U p0 p2 p3 a11 ag10 (decide ((List.length (([]:aL)++(at' p0 a11.2)):Int)=(1:Int))))else(kE U p0 p2 p3 a11 ag10 (false)))else(kE U p0 p2 p3 a11 ag10 (false))))))else(sW  (a11.1))
def oF (U:Nat) (p0:aY) (p1:Int) (p2:aL) (p3:Int):Option aY:=
 bE (kF U p0 p1 p2 p3) U (([]:aY),(0:Int))
theorem XE:aQ Tryz.prog 28:=Tryz.call28
theorem HK (U:Nat) {p0:aY} {p1:Int} {p2:aL} {p3:Int} (v0:Value)  (z1:pW)  (v2:Value) (r:aY) (h:oF U p0 p1 p2 p3=some r):
  aS Tryz.prog 28 #[v0,vU (p1),v2,vI (p3)] [S2 bD v0 z1 p0,Sl bD v2 p2] (fun x:CP=>x.1) (fun x l=>Ar cR.raw x.1 x.2::gZ bO x.2 r::l) (fun _ l=>l):=by
 refine aS.of Tryz.func28 rfl Tryz.ntmps28 rfl fun c=>?_
 unfold oF at h
 refine sqR<|qkAsg rfl<|dtN<|sqR<|qkAsg rfl<|dtN<|aG<|midL (B:=CP) (fun a4=>sW  a4=some r) (fun a4 b5=>[(9,b5.1)]) (fun a4 b5=>[Ar cR.raw b5.1 b5.2,gZ bO b5.2 a4]) ?_ ?_
 ·refine sqR<|qkAsg rfl<|dtN<|aO<|iR (iF cR.raw) (iR (tR bO) ?_)
  refine loopL (B:=CP) (kF U p0 p1 p2 p3) (fun a11 b12=>[(0,v0),(1,vU (p1)),(2,v2),(3,vI (p3)),(9,b12.1),(10,vI (a11.2))]) (fun a11 b12=>[Ar cR.raw b12.1 b12.2,gZ bO b12.2 a11.1]) (([]:aY),(0:Int)) ((kT),([]:f_)) h SF (aV.ix [1,0] rfl rfl) ?_
  intro k13 a11 b12 h
  refine aG<|sqR<|qkMove rfl<|qkMove rfl<|aB (iL rfl (aC.fact 0 rfl) rfl) rfl<|qkLss rfl<|dtN ?_
  refine eF h rfl (fun h=>?_) fun h=>?_
  ·refine cJ<|aG<|aO<|sqR<|aF (cC (e:=bO) ([]:aL) [] rfl rfl rfl rfl ((fun i h=>by simp at h;subst h;rfl)) rfl rfl rfl) rfl fun u15=>qkMove rfl<|qkMove rfl<|ckE h fun j16 h=>aB (cP rfl rfl (aC.fact 0 rfl) rfl rfl j16) rfl<|aB (cQ rfl (aC.fact 0 rfl) rfl rfl j16) rfl<|ckE h fun j18 h=>aF (fN 0 cE rfl rfl rfl (aC.el (aC.fact 0 rfl) j16.1 j16.2) rfl rfl rfl rfl j18 rfl) rfl fun u17=>qkAsg rfl<|dtN<|aG<|midU (fun a20=>pD a11 (bE (kF U p0 p1 p2 p3) k13) a20=some r) (fun a20 b21=>[(0,v0),(1,vU (p1)),(2,v2),(3,vI (p3)),(9,b12.1),(10,vI (a11.2)),(11,u17)]) (fun a20 b21=>[Ar bO u17 a20,Ar cR.raw b12.1 b12.2,gZ bO b12.2 a11.1]) ?_ ?_
   ·refine aG<|midU (fun a29=>kE U p0 p2 p3 a11 (bE (kF U p0 p1 p2 p3) k13) a29=some r) (fun a29 b30=>[(0,v0),(1,vU (p1)),(2,v2),(3,vI (p3)),(9,b12.1),(10,vI (a11.2)),(11,u17),(37,vB (a29))]) (fun a29 b30=>[Ar bO u17 (([]:aL)++(at' p0 a11.2)),Ar cR.raw b12.1 b12.2,gZ bO b12.2 a11.1]) ?_ ?_
    ·refine aK<|qkMove rfl<|qkMove rfl<|bnE h fun r37 w38 h=>aF (aJ.callQ GE (wT U  r37 w38) rfl .nil) rfl fun x39=>qkMove rfl ?_
     refine xH (by exact rfl) (by exact rfl) (fun hp40=>?_) (fun hp40=>?_)
     ·have h:=Kw hp40 h
      refine gyMove rfl<|gyMove rfl<|aN rfl (fI rfl (aC.fact 1 rfl) rfl) rfl<|aN rfl (Bu rfl rfl) rfl<|qkPkT rfl<|qkMove rfl ?_
      refine AW h rfl (fun _ h=>?_) fun _ h=>?_
      ·refine gyMove rfl<|aN rfl (fI rfl (aP (aC.res 0 rfl) cE) rfl) rfl<|aN rfl (Iz rfl rfl) rfl<|qkPkT rfl<|dtN ?_
       exact fM (decide ((List.length (([]:aL)++(at' p0 a11.2)):Int)=(1:Int))) () h SF rfl
      refine gdSkip rfl<|gdSkip rfl<|gdSkip rfl<|qkPkF rfl<|dtN ?_
      exact fM (false) () h SF rfl
     have h:=Hg hp40 h
     refine gdSkip rfl<|gdSkip rfl<|gdSkip rfl<|gdSkip rfl<|qkPkF rfl<|qkMove rfl<|gdSkip rfl<|gdSkip rfl<|gdSkip rfl<|qkPkF rfl<|dtN ?_
     exact fM (false) () h SF rfl
    intro a29 b30 h
    refine z_ h rfl (fun _ h=>?_) fun _ h=>?_
    ·refine aK<|qkMove rfl<|qkMove rfl<|qkMove rfl<|ckE h fun j32 h=>aB (aX rfl rfl (aC.fact 1 rfl) rfl rfl j32) rfl<|aB (bQ rfl (aC.fact 1 rfl) rfl rfl rfl cZ j32) rfl<|qkMove rfl<|bnE h fun r33 w34 h=>aF (aJ.callQ AA (iC U  r33 w34) rfl .nil) rfl fun x35=>ckE h fun j36 h=>aB (aX rfl rfl (aP (aC.res 0 rfl) cE) rfl rfl j36) rfl<|uA 0 r33 j36 rfl rfl rfl rfl rfl rfl rfl<|dtN ?_
     exact fM (List.set (([]:aL)++(at' p0 a11.2)) (Int.toNat (0:Int)) r33) () h SF rfl
    refine cJ ?_
    exact fM (([]:aL)++(at' p0 a11.2)) () h SF rfl
   intro a20 b21 h
   refine aK<|qkMove rfl<|qkMove rfl<|iR (tR bO)<|bY (Know.one ((aP (aC.res 1 rfl) cE))) fun ho22=>iR (Gv 0 1 rfl rfl rfl) ?_
   refine aF (cC (e:=cR.raw) [u17] [(0,u17)] rfl rfl rfl rfl (mT (u17) ho22) rfl rfl (by simp[cellsOf,cR.raw,ho22])) rfl fun u23=>?_
   refine bY (cO 3 rfl) fun hl24=>bY (cO 1 rfl) fun hl25=>ckE h fun j26 h=>iR (Fl 3 1 rfl rfl rfl) ?_
   refine aF (aJ.append 1 0 rfl rfl rfl rfl rfl rfl rfl (by have q:=j26;have q1:=hl24;have q2:=hl25;(try simp only[List.length_cons,List.length_nil]at q q1 q2 ⊢);omega) (by have q:=j26;have q1:=hl24;have q2:=hl25;(try simp only[List.length_cons,List.length_nil]at q q1 q2 ⊢);omega) rfl) rfl fun u27=>?_
   refine qkAsg rfl<|dK<|inT<|aK<|qkMove rfl<|qkAdd rfl<|qkAsg rfl<|dtN ?_
   exact mO ((a11.1++[a20]),(wI .i64 (a11.2+(1:Int)))) (u27,(b12.2++[u17])) h SF (aV.ix [1,2] rfl rfl) (aD.refl _ _)
  refine eZ ?_
  exact fM (a11.1) (b12.1,b12.2) h SF rfl
 intro a4 b5 h
 unfold sW at h
 refine sqR<|qkMove rfl<|qkAsg rfl<|dtN<|aR ?_
 cases h
 exact gC (b5.1,b5.2) rfl rfl (RV.tmp rfl) (aV.refl _) aD.nil
end
section
def xB  (a2:Unit):Option (Bool):=
 some (true)
def tB (p0:aL) (p1:aL) (a6:Int) (ag5:(Int)->Option (Bool)):Option (Bool):=
 if a6<(List.length p0:Int)then(ck (0<=a6∧a6<(List.length p0:Int)) (ck (0<=a6∧a6<(List.length p1:Int)) (if(at' p0 a6)≠(at' p1 a6)then(some (false))else(ag5 (wI .i64 (a6+(1:Int)))))))else(xB  (()))
def uP (U:Nat) (p0:aL) (p1:aL):Option (Bool):=
 if(List.length p0:Int)≠(List.length p1:Int)then(some (false))else(bE (tB p0 p1) U (0:Int))
theorem XL:aQ Tryz.prog 58:=Tryz.call58
theorem HN (U:Nat) {p0:aL} {p1:aL} (v0:Value)  (v1:Value) (r:Bool) (h:uP U p0 p1=some r):
  aS Tryz.prog 58 #[v0,v1] [Sl bD v0 p0,Sl bD v1 p1] (fun x:Unit=>vB (r)) (fun x l=>l) (fun _ l=>l):=by
 refine aS.of Tryz.func58 rfl Tryz.ntmps58 rfl fun c=>?_
 refine sqR<|qkAsg rfl<|dtN<|aG<|sqR<|qkMove rfl<|qkLen (aC.fact 0 rfl) rfl<|qkMove rfl<|qkLen (aC.fact 1 rfl) rfl<|qkNeq rfl<|dtN ?_
 refine eF h rfl (fun h=>?_) fun h=>?_
 ·refine sqR<|qkAsg rfl<|dtN<|aR<|aI ?_
  cases h
  exact kH rfl
 refine cJ<|aG<|midU (fun a2=>xB  a2=some r) (fun a2 b3=>[]) (fun a2 b3=>[]) ?_ ?_
 ·refine sqR<|qkMove rfl<|qkLen (aC.fact 0 rfl) rfl<|qkMove rfl<|dtN<|aO<|loopL (tB p0 p1) (fun a6 b7=>[(0,v0),(1,v1),(12,vI (List.length p0:Int)),(13,vI (a6))]) (fun a6 b7=>[]) (0:Int) () h SF (aV.refl _) ?_
  intro k8 a6 b7 h
  refine sqR<|qkLss rfl<|dtN<|aG ?_
  refine eF h rfl (fun h=>?_) fun h=>?_
  ·refine cJ<|aG<|aO<|sqR<|qkMove rfl<|qkAsg rfl<|dtN<|aG ?_
   refine JR.start [0,0,3,7,0,0,48,112,255] 8 mixedOrders (by decide +kernel) ?_
   refine JR.open (by exact rfl) ?_
   refine jkMove rfl<|jkMove rfl<|ckE h fun j10 h=>bI rfl .nil (oK 0 rfl) (aX rfl rfl (aC.fact 0 rfl) rfl rfl j10) aM.z<|bI rfl .nil (oK 0 rfl) (bQ rfl (aC.fact 0 rfl) rfl rfl rfl cZ j10) aM.z<|jkMove rfl<|jkMove rfl<|ckE h fun j11 h=>bI rfl .nil (oK 1 rfl) (aX rfl rfl (aC.fact 0 rfl) rfl rfl j11) aM.z<|bI rfl .nil (oK 1 rfl) (bQ rfl (aC.fact 0 rfl) rfl rfl rfl cZ j11) aM.z<|bH 8 rfl rfl<|qkNeq rfl<|dtN ?_
   refine eF h rfl (fun h=>?_) fun h=>?_
   ·refine sqR<|qkAsg rfl<|dtN<|aR<|bL<|aI<|aI<|bL<|aI ?_
    cases h
    exact kH rfl
   refine dD<|inT<|aK<|qkAdd rfl<|qkMove rfl<|dtN ?_
   exact xV (wI .i64 (a6+(1:Int))) () h SF rfl
  refine eZ ?_
  exact fM () (()) h SF rfl
 intro a2 b3 h
 unfold xB at h
 refine sqR<|qkAsg rfl<|dtN<|aR ?_
 cases h
 exact kH rfl
end
section
def rE  (a2:Int):Option (Int):=
 some (a2)
def oH (a7:dL) (ag6:eK->Option (Int)) (a12:Int):Option (Int):=
 ag6 (a12,(wI .i64 (a7.2+(1:Int))))
def kZ (a7:dL) (ag6:eK->Option (Int)) (a15:Bool):Option (Int):=
 if a15=true then(ck (0<=a7.2) (oH a7 ag6 (EC .u32 a7.1 (uX .u32 (1:Int) a7.2))))else(oH a7 ag6 (a7.1))
def k_ (U:Nat) (p0:aY) (p1:aY) (a7:dL) (ag6:eK->Option (Int)):Option (Int):=
 if a7.2<(24:Int)then(if((decide (a7.2<(List.length p0:Int))) != (decide (a7.2<(List.length p1:Int))))=true then(kZ a7 ag6 (true))else(if a7.2<(List.length p0:Int)then(ck (0<=a7.2∧a7.2<(List.length p0:Int)) (ck (0<=a7.2∧a7.2<(List.length p1:Int)) (Option.bind (uP U (at' p0 a7.2) (at' p1 a7.2)) fun r23=>(kZ a7 ag6 ((!r23))))))else(kZ a7 ag6 (false))))else(rE  (a7.1))
def pG (U:Nat) (p0:aY) (p1:aY):Option (Int):=
 bE (k_ U p0 p1) U ((0:Int),(0:Int))
theorem XF:aQ Tryz.prog 29:=Tryz.call29
theorem FM (U:Nat) {p0:aY} {p1:aY} (v0:Value)  (z1:pW)  (v2:Value)  (z3:pW) (r:Int) (h:pG U p0 p1=some r):
  aS Tryz.prog 29 #[v0,v2] [S2 bD v0 z1 p0,S2 bD v2 z3 p1] (fun x:Unit=>vU (r)) (fun x l=>l) (fun _ l=>l):=by
 refine aS.of Tryz.func29 rfl Tryz.ntmps29 rfl fun c=>?_
 unfold pG at h
 refine sqR<|qkAsg rfl<|dtN<|sqR<|qkAsg rfl<|dtN<|aG<|midU (fun a2=>rE  a2=some r) (fun a2 b3=>[(5,vU (a2))]) (fun a2 b3=>[]) ?_ ?_
 ·refine sqR<|qkMove rfl<|dtN<|aO<|loopL (k_ U p0 p1) (fun a7 b8=>[(0,v0),(1,v2),(5,vU (a7.1)),(9,vI (a7.2))]) (fun a7 b8=>[]) ((0:Int),(0:Int)) () h SF (aV.refl _) ?_
  intro k9 a7 b8 h
  refine sqR<|qkLss rfl<|dtN<|aG ?_
  refine eF h rfl (fun h=>?_) fun h=>?_
  ·refine cJ<|aG<|midU (fun a12=>oH a7 (bE (k_ U p0 p1) k9) a12=some r) (fun a12 b13=>[(0,v0),(1,v2),(5,vU (a12)),(9,vI (a7.2))]) (fun a12 b13=>[]) ?_ ?_
   ·refine aO<|sqR<|qkMove rfl<|qkAsg rfl<|dtN<|sqR<|qkMove rfl<|qkMove rfl<|aB (iL rfl (aC.fact 0 rfl) rfl) rfl<|qkLss rfl<|qkMove rfl<|qkMove rfl<|aB (iL rfl (aC.fact 1 rfl) rfl) rfl<|qkLss rfl<|qkAsg rfl<|qkAsg rfl<|dtN<|aG<|midU (fun a15=>kZ a7 (bE (k_ U p0 p1) k9) a15=some r) (fun a15 b16=>[(0,v0),(1,v2),(5,vU (a7.1)),(6,vI (a7.2)),(9,vI (a7.2)),(37,vB (a15))]) (fun a15 b16=>[]) ?_ ?_
    ·refine JR.start [0,0,3,7,15,31,63,63,255,511,63,63,3135,7231,16383,32767,65535,131071] 14 mixedOrders (by decide +kernel) ?_
     refine JR.open (by exact rfl) ?_
     refine jkMove rfl<|jkMove rfl<|jqN rfl (RH rfl rfl rfl)<|jkMove rfl ?_
     refine JR.guard (by exact rfl) (by exact rfl) (by exact rfl) (fun hp19=>?_) (fun hp19=>?_)
     ·have h:=Kw hp19 h
      refine b_ rfl rfl rfl rfl<|b_ rfl rfl rfl rfl<|Fj (h:= ?_)
      refine Fj (h:= ?_)
      refine Fj (h:= ?_)
      refine Fj (h:= ?_)
      refine Fj (h:= ?_)
      refine Fj (h:= ?_)
      refine Fj (h:= ?_)
      refine Fj (h:= ?_)
      refine bH 14 rfl rfl<|zS (h:= ?_)
      refine zS (h:= ?_)
      refine gdSkip rfl<|qkPkT rfl<|dtN ?_
      exact fM (true) () h SF rfl
     have h:=Hg hp19 h
     refine kB rfl .nil .nil (fO rfl) aM.z<|kB rfl .nil .nil (fO rfl) aM.z ?_
     refine Ew (by exact rfl) (by exact rfl) (by exact rfl) (fun hp20=>?_) (fun hp20=>?_)
     ·have h:=Kw hp20 h
      refine kB rfl .nil .nil (fO rfl) aM.z<|kB rfl .nil .nil (fO rfl) aM.z<|ckE h fun j21 h=>kB rfl .nil (oK 0 rfl) (cP rfl rfl (aC.fact 0 rfl) rfl rfl j21) aM.z<|kB rfl .nil (oK 0 rfl) (cQ rfl (aC.fact 0 rfl) rfl rfl j21) aM.z<|kB rfl .nil .nil (fO rfl) aM.z<|kB rfl .nil .nil (fO rfl) aM.z<|ckE h fun j22 h=>kB rfl .nil (oK 1 rfl) (cP rfl rfl (aC.fact 0 rfl) rfl rfl j22) aM.z<|kB rfl .nil (oK 1 rfl) (cQ rfl (aC.fact 0 rfl) rfl rfl j22) aM.z<|bH 14 rfl rfl<|bnE h fun r23 w24 h=>pX rfl (aJ.callQ XL (HN U ((at' z1 a7.2).1) ((at' z3 a7.2).1) r23 w24) rfl (aD.cons (aC.el (aC.fact 0 rfl) j21.1 j21.2) (aD.cons (aC.el (aC.fact 1 rfl) j22.1 j22.2) .nil))) rfl fun x25=>aN rfl (rK rfl) rfl<|aN rfl (yT rfl rfl) rfl<|qkPkF rfl<|dtN ?_
      exact fM ((!r23)) () h SF rfl
     have h:=Yq hp20 h
     refine b_ rfl rfl rfl rfl<|b_ rfl rfl rfl rfl<|b_ rfl rfl rfl rfl<|b_ rfl rfl rfl rfl<|b_ rfl rfl rfl rfl<|b_ rfl rfl rfl rfl<|b_ rfl rfl rfl rfl<|b_ rfl rfl rfl rfl<|bH 14 rfl rfl<|gdSkip rfl<|gdSkip rfl<|aN rfl (xN rfl rfl) rfl<|qkPkF rfl<|dtN ?_
     exact fM (false) () h SF rfl
    intro a15 b16 h
    refine z_ h rfl (fun _ h=>?_) fun _ h=>?_
    ·refine aK<|qkMove rfl<|qkMove rfl<|ckE h fun j18 h=>aB (DD rfl rfl j18) rfl<|aB (Lg rfl rfl) rfl<|qkAsg rfl<|dK<|inT ?_
     exact fM (EC .u32 a7.1 (uX .u32 (1:Int) a7.2)) () h SF rfl
    refine dD<|inT ?_
    exact fM (a7.1) () h SF rfl
   intro a12 b13 h
   unfold oH at h
   refine aK<|qkAdd rfl<|qkMove rfl<|dtN ?_
   exact xV (a12,(wI .i64 (a7.2+(1:Int)))) () h SF rfl
  refine eZ ?_
  exact fM (a7.1) () h SF rfl
 intro a2 b3 h
 unfold rE at h
 refine sqR<|qkMove rfl<|qkAsg rfl<|dtN<|aR ?_
 cases h
 exact kH rfl
end
section
def uN (U:Nat) (p0:cW):Option (Bool):=
 Option.bind (dH U ((p0.1,p0.2))) fun r2=>(some (r2))
theorem XU:aQ Tryz.prog 97:=Tryz.call97
theorem Eo (U:Nat) {p0:cW} (v0:Value)  (v1:Value)  (z2:mB) (r:Bool) (h:uN U p0=some r):
  aS Tryz.prog 97 #[Value.agg #[v0,v1]] [Sl bD v0 p0.1,S2 a_ v1 z2 p0.2] (fun x:Unit=>vB (r)) (fun x l=>l) (fun _ l=>l):=by
 refine aS.of Tryz.func97 rfl Tryz.ntmps97 rfl fun c=>?_
 refine sqR<|aF (aJ.box (cs:=[v0,v1]) rfl rfl) rfl fun b1=>qkAsg rfl<|dtN<|sqR<|qkLdA 0 rfl<|bnE h fun r2 w3 h=>aF (aJ.callQ EG (pS U v0 v1 z2 r2 w3) rfl (lH [0,1] rfl)) rfl fun x4=>qkAsg rfl<|dtN<|aR ?_
 cases h
 exact vT rfl
end
section
def eM  (a3:Bool):Option (Bool):=
 some (a3)
def fF (U:Nat) (p0:cW) (p1:aY) (p2:aL):Option (Bool):=
 Option.bind (uN U ((p0.1,p0.2))) fun r5=>(if r5=true then(Option.bind (iG U ((p0.1,p0.2)) p1 p2) fun r9=>(eM  (r9)))else(eM  (false)))
theorem XI:aQ Tryz.prog 55:=Tryz.call55
theorem xS (U:Nat) {p0:cW} {p1:aY} {p2:aL} (v0:Value)  (v1:Value)  (z2:mB)  (v3:Value)  (z4:pW)  (v5:Value) (r:Bool) (h:fF U p0 p1 p2=some r):
  aS Tryz.prog 55 #[Value.agg #[v0,v1],v3,v5] [Sl bD v0 p0.1,S2 a_ v1 z2 p0.2,S2 bD v3 z4 p1,Sl bD v5 p2] (fun x:Unit=>vB (r)) (fun x l=>l) (fun _ l=>l):=by
 refine aS.of Tryz.func55 rfl Tryz.ntmps55 rfl fun c=>?_
 refine sqR<|aF (aJ.box (cs:=[v0,v1]) rfl rfl) rfl fun b1=>qkAsg rfl<|dtN<|aG<|midU (fun a3=>eM  a3=some r) (fun a3 b4=>[(6,vB (a3))]) (fun a3 b4=>[]) ?_ ?_
 ·refine aK<|qkLdA 0 rfl<|bnE h fun r5 w6 h=>aF (aJ.callQ XU (Eo U v0 v1 z2 r5 w6) rfl (lH [0,1] rfl)) rfl fun x7=>qkMove rfl ?_
  refine xH (by exact rfl) (by exact rfl) (fun hp8=>?_) (fun hp8=>?_)
  ·have h:=Kw hp8 h
   refine aN rfl (gH 0 rfl rfl rfl rfl) rfl<|gyMove rfl<|gyMove rfl<|bnE h fun r9 w10 h=>pX rfl (aJ.callQ XV (Cw U v0 v1 z2 v3 z4 v5 r9 w10) rfl (lH [0,1,2,3] rfl)) rfl fun x11=>qkPkT rfl<|qkAsg rfl<|dtN ?_
   exact bV (r9) () h SF .nil (aD.refl _ _)
  have h:=Hg hp8 h
  refine gdSkip rfl<|gdSkip rfl<|gdSkip rfl<|gdSkip rfl<|qkPkF rfl<|qkAsg rfl<|dtN ?_
  exact bV (false) () h SF .nil (aD.refl _ _)
 intro a3 b4 h
 unfold eM at h
 refine aR ?_
 cases h
 exact kH rfl
end
section
def tM (U:Nat) (p0:cW) (p1:Int):Option (Int):=
 Option.bind (dH U ((p0.1,p0.2))) fun r2=>(if(!r2)=true then(some (0:Int))else(Option.bind (oE U ((p0.1,p0.2)) p1) fun r6=>(some (r6))))
theorem XW:aQ Tryz.prog 99:=Tryz.call99
theorem Dk (U:Nat) {p0:cW} {p1:Int} (v0:Value)  (v1:Value)  (z2:mB) (r:Int) (h:tM U p0 p1=some r):
  aS Tryz.prog 99 #[Value.agg #[v0,v1],vU (p1)] [Sl bD v0 p0.1,S2 a_ v1 z2 p0.2] (fun x:Unit=>vU (r)) (fun x l=>l) (fun _ l=>l):=by
 refine aS.of Tryz.func99 rfl Tryz.ntmps99 rfl fun c=>?_
 refine sqR<|aF (aJ.box (cs:=[v0,v1]) rfl rfl) rfl fun b1=>qkAsg rfl<|dtN<|aG<|sqR<|qkLdA 0 rfl<|bnE h fun r2 w3 h=>aF (aJ.callQ EG (pS U v0 v1 z2 r2 w3) rfl (lH [0,1] rfl)) rfl fun x4=>aB (rK rfl) rfl<|dtN ?_
 refine z_ h rfl (fun _ h=>?_) fun _ h=>?_
 ·refine sqR<|qkAsg rfl<|dtN<|aR<|aI ?_
  cases h
  exact vT rfl
 refine cJ<|sqR<|qkLdA 0 rfl<|qkMove rfl<|bnE h fun r6 w7 h=>aF (aJ.callQ Vd (HG U v0 v1 z2 r6 w7) rfl (lH [0,1] rfl)) rfl fun x8=>qkAsg rfl<|dtN<|aR ?_
 cases h
 exact vT rfl
end
section
def jB (U:Nat) (p0:cW) (p1:Int):Option (Bool):=
 Option.bind (tM U ((p0.1,p0.2)) p1) fun r2=>(Option.bind (qN U ((p0.1,p0.2))) fun r5=>(some (decide (r2=(vW .u32 r5 p1)))))
theorem XJ:aQ Tryz.prog 56:=Tryz.call56
theorem Bi (U:Nat) {p0:cW} {p1:Int} (v0:Value)  (v1:Value)  (z2:mB) (r:Bool) (h:jB U p0 p1=some r):
  aS Tryz.prog 56 #[Value.agg #[v0,v1],vU (p1)] [Sl bD v0 p0.1,S2 a_ v1 z2 p0.2] (fun x:Unit=>vB (r)) (fun x l=>l) (fun _ l=>l):=by
 refine aS.of Tryz.func56 rfl Tryz.ntmps56 rfl fun c=>?_
 refine sqR<|aF (aJ.box (cs:=[v0,v1]) rfl rfl) rfl fun b1=>qkAsg rfl<|dtN<|aG ?_
 refine JR.start [0,0,3,0,15,0,63,127,255] 6 mixedOrders (by decide +kernel) ?_
 refine JR.open (by exact rfl) ?_
 refine jkLdA 0 rfl<|jkMove rfl<|bnE h fun r2 w3 h=>JR.loud rfl rfl rfl (aJ.callQ XW (Dk U v0 v1 z2 r2 w3) rfl (lH [0,1] rfl)) rfl (fun x4=>(m_ [] rfl)) fun x4=>bI rfl (aV.cons 0 rfl .nil) .nil (gH 0 rfl rfl rfl rfl) (aM.h (aV.ix [0] rfl rfl) .nil aM.z)<|bnE h fun r5 w6 h=>JR.loud rfl rfl rfl (aJ.callQ Ol (FA U v0 v1 z2 r5 w6) rfl (lH [0,1] rfl)) rfl (fun x7=>(m_ [] rfl)) fun x7=>jqN rfl (fO rfl)<|bH 6 rfl rfl<|aB (DC rfl rfl) rfl<|qkEql rfl<|qkAsg rfl<|dtN<|aR ?_
 cases h
 exact vT rfl
end
section
def jQ  (a3:Bool):Option (Bool):=
 some (a3)
def fU (U:Nat) (p0:cW) (p1:aY):Option (Bool):=
 Option.bind (fF U ((p0.1,p0.2)) p1 ([(1:Int)])) fun r6=>(if r6=true then(Option.bind (lM U p1 (0:Int)) fun r10=>(Option.bind (jB U ((p0.1,p0.2)) r10) fun r13=>(jQ  (r13))))else(jQ  (false)))
theorem Sb:aQ Tryz.prog 27:=Tryz.call27
theorem xG (U:Nat) {p0:cW} {p1:aY} (v0:Value)  (v1:Value)  (z2:mB)  (v3:Value)  (z4:pW) (r:Bool) (h:fU U p0 p1=some r):
  aS Tryz.prog 27 #[Value.agg #[v0,v1],v3] [Sl bD v0 p0.1,S2 a_ v1 z2 p0.2,S2 bD v3 z4 p1] (fun x:Unit=>vB (r)) (fun x l=>l) (fun _ l=>l):=by
 refine aS.of Tryz.func27 rfl Tryz.ntmps27 rfl fun c=>?_
 refine sqR<|aF (aJ.box (cs:=[v0,v1]) rfl rfl) rfl fun b1=>qkAsg rfl<|dtN<|aG<|midU (fun a3=>jQ  a3=some r) (fun a3 b4=>[(4,vB (a3))]) (fun a3 b4=>[]) ?_ ?_
 ·refine JR.start [0,0,0,7,15,31,31,95,255,511,1023] 8 mixedOrders (by decide +kernel) ?_
  refine JR.open (by exact rfl) ?_
  refine jkLdA 0 rfl<|jkMove rfl<|JR.loud rfl rfl rfl (cC (e:=bO) ([(1:Int)]) [(0,vI (1:Int))] rfl rfl rfl rfl (mT (vI (1:Int)) rfl) rfl rfl rfl) rfl (fun u5=>(m_ [([1],[])] rfl)) fun u5=>bnE h fun r6 w7 h=>JR.loud rfl rfl rfl (aJ.callQ XI (xS U v0 v1 z2 v3 z4 u5 r6 w7) rfl (aD.cons (aC.fact 0 rfl) (aD.cons (aC.fact 1 rfl) (aD.cons (aC.fact 2 rfl) (aD.cons (aP (aC.res 0 rfl) cE) .nil))))) rfl (fun x8=>(m_ [] rfl)) fun x8=>jqN rfl (fO rfl) ?_
  refine JR.guard (by exact rfl) (by exact rfl) (by exact rfl) (fun hp9=>?_) (fun hp9=>?_)
  ·have h:=Kw hp9 h
   refine kB rfl (aV.cons 1 rfl .nil) .nil (gH 0 rfl rfl rfl rfl) (hkI rfl)<|kB rfl .nil .nil (fO rfl) (hkI rfl)<|bnE h fun r10 w11 h=>Rk rfl rfl rfl rfl (aJ.callQ XK (Dl U v3 z4 r10 w11) rfl (lH [2] rfl)) rfl (fun x12=>(m_ [([1],[])] rfl)) fun x12=>bH 8 rfl rfl<|bnE h fun r13 w14 h=>pX rfl (aJ.callQ XJ (Bi U v0 v1 z2 r13 w14) rfl (lH [0,1] rfl)) rfl fun x15=>qkPkT rfl<|qkAsg rfl<|dtN ?_
   exact bV (r13) () h SF .nil (aD.refl _ _)
  have h:=Hg hp9 h
  refine b_ rfl rfl rfl rfl<|b_ rfl rfl rfl rfl<|b_ rfl rfl rfl rfl<|bH 8 rfl rfl<|gdSkip rfl<|qkPkF rfl<|qkAsg rfl<|dtN ?_
  exact bV (false) () h SF .nil (aD.refl _ _)
 intro a3 b4 h
 unfold jQ at h
 refine aR ?_
 cases h
 exact kH rfl
end
end Go.Proofs.YtjlbcgddhnjcjaaGreatDoor
end
section
namespace Go.Proofs.YtjlbcgddhnjcjaaGreatDoor
open Go Go.Sx
section
theorem RX {p q:aL} (hl:p.length=q.length) (h:∀k:Nat,k<p.length->at' p (k:Int)=at' q (k:Int)):p=q:=by
 refine List.ext_getElem hl fun i h1 h2=> ?_
 have:=h i h1
 rwa[h_,h_,List.getD_eq_getElem?_getD,List.getD_eq_getElem?_getD,List.getElem?_eq_getElem h1,List.getElem?_eq_getElem h2]at this
theorem QJ (p q:aL) (h:q.length<900):uP 1000 p q=some (decide (p=q)):=by
 unfold uP
 by_cases hl:p.length=q.length
 ·rw[if_neg (by omega)]
  have key:=Nx (step:=tB p q) (K:=some true) (bad:=some false) p.length (fun k=>at' p (k:Int)=at' q (k:Int)) (fun k=>(k:Int)) (fun k ag hk hp=> ?_) (fun k ag hk hp=> ?_) (fun ag=> ?_) 1000 (by omega)
  ·by_cases e:p=q
   ·rw[decide_eq_true e];exact key.1 fun k hk=>by rw[e]
   ·rw[decide_eq_false e];exact key.2 fun h'=>e (RX hl fun v hv=>h' v hv)
  all_goals unfold tB
  ·rw[if_pos (by omega),cN (by omega),cN (by omega),if_neg (by simpa using hp),eB (by omega)]
  ·rw[if_pos (by omega),cN (by omega),cN (by omega),if_pos hp]
  ·rw[if_neg (by omega)];rfl
 ·rw[if_pos (by omega),decide_eq_false fun e=>hl (by rw[e])]

def EK (c d:aY) (n:Nat) (v:Nat):Bool:=decide (v<n) && !decide (at' c (v:Int)=at' d (v:Int))
theorem Qg {c d:aY} {n:Nat} (hn:n<=24) (hc:c.length=n) (hd:d.length=n) (hr:∀v:Nat,v<n->(at' d (v:Int)).length<900):
  pG 1000 c d=some ((j_ (EK c d n) 24:Nat):Int):=by
 unfold pG
 refine dJ (F:=fun v:Nat=>(((j_ (EK c d n) v:Nat):Int),(v:Int))) 24 (fun v ag hv=> ?_) (fun ag=> ?_) 1000 (by omega)
 ·have hm:=yZ (EK c d n) (k:=v) (by omega)
  have hS:∀b:Bool,EK c d n v=b->kZ (((j_ (EK c d n) v:Nat):Int),(v:Int)) ag b=ag (((j_ (EK c d n) (v+1):Nat):Int),((v+1:Nat):Int)):=fun b hb=>by
   unfold kZ oH
   dsimp only
   rw[eB (by omega)]
   cases b with
   |true=>rw[if_pos rfl,cN (by omega),ED hm (by omega)];simp[j_,hb]
   |false=>rw[if_neg (by decide)];simp[j_,hb]
  unfold k_
  dsimp only
  rw[if_pos (by omega),hc,hd,if_neg (by simp)]
  by_cases hvn:v<n
  ·rw[if_pos (by omega),cN (by omega),cN (by omega),bB (QJ _ _ (hr v hvn))]
   exact hS _ (by unfold EK;rw[decide_eq_true hvn,Bool.true_and])
  ·rw[if_neg (by omega)]
   exact hS _ (by unfold EK;rw[decide_eq_false hvn,Bool.false_and])
 ·unfold k_ rE
  dsimp only
  rw[if_neg (by omega)]
theorem VI {c d:aY} {n:Nat} (hn:n<=24) (v:Nat):(j_ (EK c d n) 24).testBit v=true↔v<n∧at' c (v:Int)≠at' d (v:Int):=by
 rw[vR]
 unfold EK
 simp only[Bool.and_eq_true,decide_eq_true_eq,Bool.not_eq_true',decide_eq_false_iff_not]
 constructor
 ·rintro⟨_,h⟩;exact h
 ·intro h;exact⟨by omega,h⟩
theorem VH {c d:aY} {n:Nat} (hn:n<=24) (h1:∀v:Nat,v<n->(at' c (v:Int)).length=1) (h2:∀v:Nat,v<n->(at' d (v:Int)).length=1) (v:Nat) (hv:v<n):(j_ (EK c d n) 24).testBit v=true↔t_ d v≠t_ c v:=by
 rw[VI hn]
 constructor
 ·rintro⟨_,h⟩ e
  exact h (RX (by rw[h1 v hv,h2 v hv]) fun k hk=>by
   obtain rfl:k=0:=by rw[h1 v hv]at hk;omega
   exact e.symm)
 ·intro h
  exact⟨hv,fun e=>h (by unfold t_;rw[e])⟩

theorem QK {g:GR} {vars:List Dz} {c:aY} (h24:g.2.length<=24) (hvl:vars.length=1) (hc:KP g c vars) {d:Nat} (hd:d<4294967296) (vals:aL) {m:Int} (h1:1<=m) (hm4:m<=4611686018427387904) (hm:∀a v,0<=a->a<m->v<g.2.length->lo g (at' vars ((0:Nat):Int)) v<=a∧a<=hi g (at' vars ((0:Nat):Int)) v):
  ∃r,oF 1000 c (d:Int) vals m=some r∧KP g r vars∧∀v:Nat,v<g.2.length->d.testBit v=false->at' r (v:Int)=at' c (v:Int):=by
 have hcl:=hc.len
 have hone:∀v:Nat,v<g.2.length->(at' c (v:Int)).length=1:=fun v hv=>by rw[hc.row v hv,hvl]
 unfold oF
 obtain⟨⟨r,i⟩,⟨hi,hl,hb⟩,he⟩:=uF (step:=kF 1000 c (d:Int) vals m) (K:=fun z=>some z.1) g.2.length
  (fun k z=>z.2=(k:Int)∧z.1.length=k∧∀v:Nat,v<k->(at' z.1 (v:Int)).length=1∧(lo g (at' vars ((0:Nat):Int)) v<=at' (at' z.1 (v:Int)) 0∧at' (at' z.1 (v:Int)) 0<=hi g (at' vars ((0:Nat):Int)) v)∧(d.testBit v=false->at' z.1 (v:Int)=at' c (v:Int))) (fun k z ag hk hI=>by
  obtain⟨r,i⟩:=z
  obtain⟨hi,hl,hb⟩:=hI
  dsimp only at hi hl hb
  subst hi
  have snoc:∀l:aL,l.length=1->(lo g (at' vars ((0:Nat):Int)) k<=at' l 0∧at' l 0<=hi g (at' vars ((0:Nat):Int)) k)->(d.testBit k=false->l=at' c (k:Int))->∃z':aY×Int,(z'.2=((k+1:Nat):Int)∧z'.1.length=k+1∧∀v:Nat,v<k+1->(at' z'.1 (v:Int)).length=1∧(lo g (at' vars ((0:Nat):Int)) v<=at' (at' z'.1 (v:Int)) 0∧at' (at' z'.1 (v:Int)) 0<=hi g (at' vars ((0:Nat):Int)) v)∧(d.testBit v=false->at' z'.1 (v:Int)=at' c (v:Int)))∧pD (r,(k:Int)) ag l=ag z':=fun l a1 a2 a3=>by
   refine⟨(r++[l],((k+1:Nat):Int)),⟨rfl,by simp[hl],fun v hv=> ?_⟩,?_⟩
   ·dsimp only
    rw[Gj r l (by omega),hl]
    by_cases e:v<k
    ·rw[if_pos e];exact hb v e
    ·rw[if_neg e]
     obtain rfl:v=k:=by omega
     exact⟨a1,a2,a3⟩
   ·unfold pD
    dsimp only
    rw[cN (by simp;omega),eB (by omega)]
  have hk1:=hone k hk
  have hok:=hc.ok k hk 0 (by omega)
  unfold kF
  dsimp only
  rw[if_pos (by omega),cN (by omega),cN (by simp;omega),bB (JI 1000 hd (by omega))]
  have plain:∃z':aY×Int,(z'.2=((k+1:Nat):Int)∧z'.1.length=k+1∧∀v:Nat,v<k+1->(at' z'.1 (v:Int)).length=1∧(lo g (at' vars ((0:Nat):Int)) v<=at' (at' z'.1 (v:Int)) 0∧at' (at' z'.1 (v:Int)) 0<=hi g (at' vars ((0:Nat):Int)) v)∧(d.testBit v=false->at' z'.1 (v:Int)=at' c (v:Int)))∧kE 1000 c vals m (r,(k:Int)) ag false=ag z':=by
   unfold kE
   rw[if_neg (by decide)]
   exact snoc _ (by simpa using hk1) hok (fun _=>by simp)
  cases hbit:d.testBit k with
  |false=>rw[if_neg (by decide)];exact plain
  | true =>
   rw[if_pos rfl]
   by_cases hlt:k<vals.length
   ·rw[if_pos (by omega),decide_eq_true (show(List.length (([]:aL)++at' c (k:Int)):Int)=1 by simp[hk1])]
    unfold kE
    rw[if_pos rfl,cN (by dsimp only;omega),bB (rI _ m h1 hm4),cN (by simp[hk1])]
    have hw1:=Int.emod_nonneg (at' vals (k:Int)) (show m≠0 by omega)
    have hw2:=Int.emod_lt_of_pos (at' vals (k:Int)) (show 0<m by omega)
    have hl1:(([]:aL)++at' c (k:Int)).length=1:=by simpa using hk1
    obtain⟨a,ha⟩:∃a,([]:aL)++at' c (k:Int)=[a]:=List.length_eq_one_iff.1 hl1
    dsimp only
    rw[ha]
    exact snoc [at' vals (k:Int)%m] rfl (hm _ k hw1 hw2 hk) (fun h=>by rw[h]at hbit;cases hbit)
   ·rw[if_neg (by omega)];exact plain) (fun z ag hI=>by
  obtain⟨r,i⟩:=z
  obtain⟨hi,hl,hb⟩:=hI
  dsimp only at hi
  subst hi
  unfold kF sW
  dsimp only
  rw[if_neg (by omega)]) 1000 (([]:aY),(0:Int)) ⟨rfl,rfl,fun j hj=>by omega⟩ (by omega)
 dsimp only at hl hb
 refine⟨r,he,⟨hl,fun v hv=>by rw[(hb v hv).1,hvl],fun v hv x hx=> ?_⟩,fun v hv=>(hb v hv).2.2⟩
 obtain rfl:x=0:=by omega
 exact(hb v hv).2.1

theorem Wk {g:GR} (hV:VG g) {c:aY} {v:Nat} (hv:v<g.2.length):HZ g c v↔∃u,BS g v u∧u<g.2.length∧t_ c u≠0:=by
 constructor
 ·rintro⟨i,hi,he⟩
  obtain⟨u,hu,hue,hadj⟩:=hV.port hv hi
  rw[oT hue]at he
  exact⟨u,hadj,hu,he⟩
 ·rintro⟨u,⟨i,hi,hue⟩,hu,he⟩
  exact⟨i,hi,by rw[oT hue];exact he⟩
theorem IV {g:GR} (hV:VG g) {c:aY} (hr:KP g c jL) (hm:Rs g c):fU 1000 g c=some true:=by
 have h24:=hV.n24
 have hcf:=aam.1 hr
 have hm32:=yZ (Ic c) (k:=g.2.length) (by omega)
 have hmem:∀u,u<g.2.length->(Ic c u=true↔t_ c u≠0):=fun u hu=>by
  have:=WX hcf hu
  unfold Ic
  rw[decide_eq_true_eq]
  show at' (at' c (u:Int)) 0=1↔at' (at' c (u:Int)) 0≠0
  omega
 have e1:fF 1000 g c [1]=some true:=by
  unfold fF uN eM
  rw[show dH 1000 (g.1,g.2)=some true from(Cp g).1 hV,bB rfl,bB rfl,if_pos rfl,bB (show iG 1000 (g.1,g.2) c [1]=some true from(EJ hV c [1] (by simp)).1 hcf)]
 obtain⟨r,hr1,m,rfl,hmb32,hmb⟩:=PU hV hm32
 have e2:jB 1000 g ((j_ (Ic c) g.2.length:Nat):Int)=some true:=by
  unfold jB tM
  rw[show dH 1000 (g.1,g.2)=some true from(Cp g).1 hV,bB rfl,if_neg (by decide),bB (show oE 1000 (g.1,g.2) _=_ from hr1),bB rfl,bB (show qN 1000 (g.1,g.2)=_ from RN hV),Lj]
  have hp:=BF (show g.2.length<32 by omega)
  have:m=IG (2^g.2.length - 1) (j_ (Ic c) g.2.length):=Wj fun v=>by
   rw[II (by omega) hm32,vR,JD]
   by_cases hv:v<g.2.length
   ·have k1:=hm v hv
    rw[Wk hV hv]at k1
    have k2:m.testBit v=true↔t_ c v=0:=by
     rw[hmb v,<-k1]
     constructor
     ·rintro⟨_,u,ha,hb⟩
      rw[vR,Bool.and_eq_true,decide_eq_true_eq]at hb
      exact⟨u,ha,hb.1,(hmem u hb.1).1 hb.2⟩
     ·rintro⟨u,ha,hu,hb⟩
      exact⟨hv,u,ha,by rw[vR,Bool.and_eq_true,decide_eq_true_eq];exact⟨hu,(hmem u hu).2 hb⟩⟩
    have k3:=hmem v hv
    rw[decide_eq_true hv,Bool.true_and,Bool.true_and]
    cases hx:Ic c v with
    |true=>
     rw[hx]at k3
     cases hy:m.testBit v with
     |true=>exact absurd (k2.1 hy) (k3.1 rfl)
     |false=>rfl
    |false=>
     rw[hx]at k3
     have h0:t_ c v=0:=Decidable.not_not.1 fun q=>by have:=k3.2 q;cases this
     rw[k2.2 h0];rfl
   ·rw[decide_eq_false hv]
    cases hy:m.testBit v with
    |true=>exact absurd ((hmb v).1 hy).1 hv
    |false=>rfl
  rw[this,decide_eq_true rfl]
 unfold fU jQ
 rw[bB (show fF 1000 (g.1,g.2) c [1]=some true from e1),if_pos rfl,bB (WB hV hcf),bB (show jB 1000 (g.1,g.2) _=some true from e2)]

abbrev pM (z:List rX):zV:=(ByteArray.mk #[105,110,100,101,112,101,110,100,101,110,116],jL,z)
def JZ (z:List rX) (g:GR) (c0:aY) (ws:aL) (k:Nat) (c:aY):Prop:=
 ∃ch cnt ens,kS 1000 (pM z) g 1 c0 ws=some ((Be ch,ens,c,cnt),0)∧MP g (iH g) c0 k c ch∧k<=ws.length∧ens.length=k+1∧at' ens (k:Int)=((vL (bN (pM z) g) RM (iH g) c:Nat):Int)∧(k=ws.length∨vL (bN (pM z) g) RM (iH g) c=0)∧c=Bf (pM z) jL RM g 1 ws c0 k∧∀j,j<k->vL (bN (pM z) g) RM (iH g) (Bf (pM z) jL RM g 1 ws c0 j)≠0
theorem Mh {g:GR} (hV:VG g) {c0:aY} (hn:g.2.length<=9) (hc0:KP g c0 jL):∃c,mI 1000 zM g c0=some (c,true)∧KP g c jL∧Rs g c:=by
 obtain⟨ws,hws,hwl,hwb⟩:=Jo ([]:aL) (n:=60) (by omega)
 have run:∀z:List rX,z.map wN=Da RM->∃k c,JZ z g c0 ws k c:=fun z hz=>by
  obtain⟨k,c,ch,cnt,ens,hrun,⟨hI,_⟩,hsh,hk,hchl,hel,hea,hend,hcR,hne⟩:=Ha (p:=(pM z)) hV (Xl hV) hz Po (kind:=1) (by omega) (by omega) hc0 (ws:=ws) (by omega) hwb
   (fun k c ch=>MP g (iH g) c0 k c ch∧True) ⟨⟨hc0,fun v _=> .inl ⟨by simp[nX],rfl⟩,by omega,fun t h=>by cases h⟩,trivial⟩
   (fun k c ch t hk hsh hI hne ht0 hsub hind=>⟨Xe hV hI.1 ht0 hsub (hind (by decide)),trivial⟩)
  exact⟨k,c,ch,cnt,ens,hrun,hI,hk,hel,hea,hend,hcR,hne⟩
 obtain⟨z0,hz0⟩:=exZ (Da RM)
 obtain⟨k0,c,ch0,cnt0,ens0,_,hI0,hk0,_,_,hend0,hcR0,hne0⟩:=run z0 hz0
 have hen0:vL (bN (pM z0) g) RM (iH g) c=0:=by
  rcases hend0 with e|e
  ·have:=Ks (f:=nX ch0) (b:=2) (n:=g.2.length) fun v hv=>hI0.two hv
   have:=hI0.sum
   omega
  ·exact e
 refine⟨c,?_,hI0.r,fun v hv=> ?_⟩
 rotate_left
 ·refine Je (p:=pM z0) fun q=> ?_
  have:(vL (bN (pM z0) g) RM (iH g) c).testBit v=true:=(Cc _ RM _ c v).2 ⟨hv,q,by unfold iH;rw[JD,decide_eq_true hv]⟩
  rw[hen0]at this;simp at this
 unfold mI
 rw[bB (LU 1000)]
 refine Oh fun z hz=> ?_
 have hz:z.map wN=Da RM:=hz
 obtain⟨k,c',ch,cnt,ens,hrun,hI,hk,hel,hea,hend,hcR,hne⟩:=run z hz
 obtain rfl:c=c':=TS hk0 hend0 hcR0 hne0 hk hend hcR hne
 rw[bB (show jT 1000 ([]:aL) 60=_ from hws)]
 refine(bB (show kS 1000 (pM z) g 1 c0 ws=_ from hrun)).trans ?_
 unfold rC kY
 dsimp only
 have e1:wI .i64 ((ens.length:Int) - 1)=(k:Int):=by rw[wr (by omega) (by omega)];omega
 rw[if_pos rfl,if_pos (by omega),e1,cN (by omega),hea,OE _ (pM z0),hen0]
 rfl
end
section
section
variable {g:GR} {cl d:List (List Int)} {S v:Nat}
theorem Nn (hV:VG g) (hS:∀u,u<g.2.length->(S.testBit u=true↔t_ d u≠t_ cl u)) (hv:v<g.2.length) (h:¬H_ g S 1 v):KA g cl d v:=by
 have key:∀u,u<g.2.length->S.testBit u≠true->t_ d u=t_ cl u:=fun u hu q=>Decidable.not_not.1 fun e=>q ((hS u hu).2 e)
 refine⟨key v hv fun q=>h ((BZ hV).2 (.inl (IC.2 ⟨q,hv⟩))),fun u hadj=> ?_⟩
 obtain⟨i,hi,hue⟩:=id hadj
 obtain⟨u',hu',hue',_⟩:=hV.port hv hi
 have:u=u':=by omega
 subst this
 exact key u hu' fun q=>h ((BZ hV).2 (.inr ⟨hv,u,hadj,IC.2 ⟨q,hu'⟩⟩))
theorem VR (hV:VG g) (hS:∀u,u<g.2.length->(S.testBit u=true↔t_ d u≠t_ cl u)) (hv:v<g.2.length) (h:¬H_ g S 2 v):KA g cl d v∧∀u,BS g v u->KA g cl d u:=by
 refine⟨Nn hV hS hv fun q=>h ((BZ hV).2 (.inl q)),fun u hadj=> ?_⟩
 obtain⟨i,hi,hue⟩:=id hadj
 obtain⟨u',hu',hue',_⟩:=hV.port hv hi
 have:u=u':=by omega
 subst this
 exact Nn hV hS hu' fun q=>h ((BZ hV).2 (.inr ⟨hv,u,hadj,q⟩))
end
end
end Go.Proofs.YtjlbcgddhnjcjaaGreatDoor
end
section
namespace Go.Proofs.YtjlbcgddhnjcjaaGreatDoor
open Go.Sx
def jG (U:Nat)  : Option (ByteArray):=
 some (ByteArray.mk #[112,114,111,103,114,97,109,32,105,110,100,101,112,101,110,100,101,110,116,59,10,118,97,114,32,109,32,58,32,98,111,111,108,59,10,114,117,108,101,32,108,101,97,118,101,58,32,109,32,38,38,32,115,111,109,101,40,113,46,109,41,32,45,62,32,109,32,58,61,32,102,97,108,115,101,59,10,114,117,108,101,32,101,110,116,101,114,58,32,33,109,32,38,38,32,33,115,111,109,101,40,113,46,109,41,32,45,62,32,109,32,58,61,32,116,114,117,101,59,10])
theorem WP:aQ Tryz.prog 9:=Tryz.call9
theorem yK (U:Nat)  (r:ByteArray) (h:jG U  = some r):
  aS Tryz.prog 9 #[] [] (fun x:Unit=>vS (r)) (fun x l=>l) (fun _ l=>l):=by
 refine aS.of Tryz.func9 rfl Tryz.ntmps9 rfl fun c=>?_
 unfold jG at h
 refine sqR<|qkAsg rfl<|dtN<|sqR<|qkAsg rfl<|dtN<|aR ?_
 cases h
 exact kH rfl
end Go.Proofs.YtjlbcgddhnjcjaaGreatDoor
end
section
namespace Go.Proofs.YtjlbcgddhnjcjaaGreatDoor
open Go Go.Sx Go.Gx
set_option maxRecDepth 100000
def zI (fuel:Nat):Option (Bool):=some (true)
theorem R_:aQ Tryz.prog 21:=Tryz.call21
theorem Sv:okT (GK EZ gp2 4000 21 [] H0)=true:=by kernel_rfl
theorem Im (fuel:Nat) (r:Bool) (h:zI fuel=some r):
  aS Tryz.prog 21 #[] [Gb 0 (cellsOf BV pV)] (fun x:Unit=>Value.bool (r)) (fun x l=>l) (fun _ l=>l):=by
 obtain rfl:=Option.some.inj h
 obtain⟨H',h1⟩:=TG Sv
 rw[DI Ee]at h1
 exact Ka Ta R_ (fun ρ V' h=>h.bool_inv) fun T b=>DG (gs:=gl T) adi h1 (eD.start b rfl) .nil
end Go.Proofs.YtjlbcgddhnjcjaaGreatDoor
end
section
namespace Go.Proofs.YtjlbcgddhnjcjaaGreatDoor
open Go.Sx
noncomputable def fC  (a72:Bool):Option (Bool):=
 some (a72)
noncomputable def kR (U:Nat) (r2:Al) (a55:CN) (a69:Unit):Option (Bool):=
 Option.bind (zI U) fun r74=>(if r74=true then(Option.bind (fU U ((r2.1,r2.2)) a55.2.2.2.2.2.2.2.2) fun r78=>(fC  (r78)))else(fC  (false)))
noncomputable def cL (a83:Int) (ag82:(Int)->Option (Bool)) (a88:Bool):Option (Bool):=
 if a88=true then(some (false))else(ag82 (wI .i64 (a83+(1:Int))))
noncomputable def dW (U:Nat) (r2:Al) (a55:CN) (a61:aL) (r63:Int) (r66:Int) (a83:Int) (ag82:(Int)->Option (Bool)):Option (Bool):=
 if a83<(List.length a61:Int)then(ck (0<=a83∧a83<(List.length a61:Int)) (if(2:Int)<(at' a61 a83)then(cL a83 ag82 (true))else(ck (0<=a83∧a83<(List.length a61:Int)) (if(0:Int)<(at' a61 a83)then(Option.bind (mY U r66 a83) fun r95=>(if(!r95)=true then(cL a83 ag82 (true))else(ck (0<=a83∧a83<(List.length a61:Int)) (if(1:Int)<(at' a61 a83)then(Option.bind (mY U r63 a83) fun r101=>(cL a83 ag82 ((!r101))))else(cL a83 ag82 (false))))))else(ck (0<=a83∧a83<(List.length a61:Int)) (if(1:Int)<(at' a61 a83)then(Option.bind (mY U r63 a83) fun r106=>(cL a83 ag82 ((!r106))))else(cL a83 ag82 (false))))))))else(kR U r2 a55 (()))
noncomputable def e_ (U:Nat) (r2:Al) (r38:Int) (a55:CN) (a61:aL):Option (Bool):=
 Option.bind (fL U ((r2.1,r2.2)) r38 (1:Int)) fun r63=>(Option.bind (fL U ((r2.1,r2.2)) r38 (2:Int)) fun r66=>(bE (dW U r2 a55 a61 r63 r66) U (0:Int)))
noncomputable def gX (a112:oJ) (ag111:sJ->Option (Bool)) (a117:aL):Option (Bool):=
 ag111 ((wI .i64 (a112.1+(1:Int))),a117)
noncomputable def fD (a122:oJ) (ag121:sJ->Option (Bool)) (a127:aL):Option (Bool):=
 ag121 ((wI .i64 (a122.1+(1:Int))),a127)
noncomputable def dX (U:Nat) (a55:CN) (a112:oJ) (ag111:sJ->Option (Bool)) (a122:oJ) (ag121:sJ->Option (Bool)):Option (Bool):=
 if a122.1<(List.length a122.2:Int)then(ck (0<=a112.1∧a112.1<(List.length a55.2.2.2.2.2.2.1:Int)) (Option.bind (mY U (at' a55.2.2.2.2.2.2.1 a112.1) a122.1) fun r130=>(if r130=true then(ck (0<=a122.1∧a122.1<(List.length a122.2:Int)) (ck (0<=a122.1∧a122.1<(List.length a122.2:Int)) (fD a122 ag121 (List.set a122.2 (Int.toNat a122.1) (wI .i64 ((at' a122.2 a122.1)+(1:Int)))))))else(fD a122 ag121 (a122.2)))))else(gX a112 ag111 (a122.2))
noncomputable def cA (U:Nat) (r2:Al) (r38:Int) (a55:CN) (a112:oJ) (ag111:sJ->Option (Bool)):Option (Bool):=
 if a112.1<(List.length a55.2.2.2.2.2.2.1:Int)then(bE (dX U a55 a112 ag111) U ((0:Int),a112.2))else(e_ U r2 r38 a55 (a112.2))
noncomputable def kQ (U:Nat) (r2:Al) (r28:aY×Bool) (r38:Int) (a55:CN):Option (Bool):=
 if a55.1≠(0:Int)then(some (false))else(ck (0<=(List.length r28.1:Int)∧(List.length r28.1:Int)<=1099511627) (bE (cA U r2 r38 a55) U ((0:Int),(List.replicate (Int.toNat (List.length r28.1:Int)) (0:Int)))))
noncomputable def gW (U:Nat) (p2:Int) (p3:aL) (p4:aL) (r2:Al) (r11:ByteArray×List (ByteArray×Int×Int×Int×Int×Int)×List (eO×List (Int×eO))) (z14:List rX) (r28:aY×Bool) (a32:Bool):Option (Bool):=
 if a32=true then(some (false))else(Option.bind (oF U r28.1 p2 p3 (2:Int)) fun r35=>(Option.bind (pG U r28.1 r35) fun r38=>(Option.bind (jT U p4 (60:Int)) fun r136=>(Option.bind (kS U ((r11.1,r11.2.1,z14)) ((r2.1,r2.2)) (2:Int) r35 r136) fun r139=>(kQ U r2 r28 r38 (r139.2,r139.1.2.2.2.1,r139.1.2.2.2.2.1,r139.1.2.2.2.2.2.1,r139.1.2.2.2.2.2.2.1,r139.1.2.2.2.2.2.2.2,r139.1.1,r139.1.2.1,r139.1.2.2.1))))))
noncomputable def lN (U:Nat) (p0:Am) (p1:aL) (p2:Int) (p3:aL) (p4:aL):Option (Bool):=
 Option.bind (mU U ((p0.1,p0.2.1,p0.2.2.1,p0.2.2.2.1,p0.2.2.2.2.1,p0.2.2.2.2.2)) (9:Int)) fun r2=>(Option.bind (jG U) fun r8=>(Option.bind (mJ U r8) fun r11=>PS r11.2.2 fun z14=>(Option.bind (jG U) fun r19=>(Option.bind (AJ U) fun r22=>(Option.bind (lP U ((r2.1,r2.2)) r22 p1) fun r25=>(Option.bind (mI U r19 ((r2.1,r2.2)) r25) fun r28=>(if(!r28.2)=true then(gW U p2 p3 p4 r2 r11 z14 r28 (true))else(Option.bind (fU U ((r2.1,r2.2)) r28.1) fun r169=>(gW U p2 p3 p4 r2 r11 z14 r28 ((!r169)))))))))))
theorem yL (U:Nat) {p0:Am} {p1:aL} {p2:Int} {p3:aL} {p4:aL} (v0:Value)  (v1:Value)  (v2:Value)  (v3:Value)  (v4:Value)  (v5:Value) (r:Bool) (h:lN U p0 p1 p2 p3 p4=some r):
  aS Tryz.prog 5 #[Value.agg #[vI (p0.1),v0,v1,v2,vB (p0.2.2.2.2.1),vB (p0.2.2.2.2.2)],v3,vU (p2),v4,v5] [Sl bD v0 p0.2.1,Sl bD v1 p0.2.2.1,Sl bD v2 p0.2.2.2.1,Sl bD v3 p1,Sl bD v4 p3,Sl tJ v5 p4,Gb 0 (cellsOf BV pV)] (fun x:Unit=>vB (r)) (fun x l=>l) (fun _ l=>l):=by
 refine aS.of Tryz.func5 rfl Tryz.ntmps5 rfl fun c=>?_
 refine sqR<|aF (aJ.box (cs:=[vI (p0.1),v0,v1,v2,vB (p0.2.2.2.2.1),vB (p0.2.2.2.2.2)]) rfl rfl) rfl fun b1=>qkAsg rfl<|dtN<|sqR<|qkLdA 0 rfl<|bnE h fun r2 w3 h=>aF (aJ.callQ ZP (Ei U v0 v1 v2 r2 w3) rfl (lH [0,1,2] rfl)) rfl fun x4=>aF (aJ.alloc (cs:=[kT,kT]) rfl rfl) rfl fun b5=>bY (Know.one ((aP (aC.res 1 rfl) cE))) fun ho6=>bY (Know.one (aC.sl (bA (i:=2) (j:=3) rfl rfl bG))) fun ho7=>bK 0 (vs:=[x4.1,x4.2.1]) rfl rfl (cK ho6 (cK ho7 rfl)) rfl rfl rfl<|dtN<|sqR<|bnE h fun r8 w9 h=>aF (aJ.callQ WP (yK U  r8 w9) rfl .nil) rfl fun x10=>bnE h fun r11 w12 h=>aF (aJ.call EF (pH U r11 w12) rfl (oK 6 rfl) (fun _ _=>rfl) (fun _ _=>rfl)) rfl fun⟨x13a,x13b,z14,hz15⟩=>?_
 have h:=zZ h z14 hz15
 refine aF (aJ.alloc (cs:=[vS (ByteArray.mk #[]),kT,kT]) rfl rfl) rfl fun b16=>bY (Know.one ((aC.fact 0 rfl))) fun ho17=>bY (Know.one ((aC.fact 1 rfl))) fun ho18=>bK 0 (vs:=[vS (r11.1),x13a,x13b]) rfl rfl (cK rfl (cK ho17 (cK ho18 rfl))) rfl rfl rfl<|dtN<|aG ?_
 refine JR.start [0,0,0,1,0,29,63,127,255,255,511,2047] 11 mixedOrders (by decide +kernel) ?_
 refine JR.open (by exact rfl)<|bnE h fun r19 w20 h=>JR.loud rfl rfl rfl (aJ.callQ WP (yK U  r19 w20) rfl .nil) rfl (fun x21=>yO.z) fun x21=>bI rfl (aV.cons 1 rfl .nil) .nil (gH 0 rfl rfl rfl rfl) (aM.h (aV.ix [1] rfl rfl) .nil aM.z)<|bI rfl (aV.cons 1 rfl .nil) .nil (gH 0 rfl rfl rfl rfl) (aM.h (aV.ix [1] rfl rfl) .nil aM.z)<|bnE h fun r22 w23 h=>JR.loud rfl rfl rfl (aJ.callQ XA (Kn U  r22 w23) rfl .nil) rfl (fun x24=>(m_ [([2],[]),([2],[])] rfl)) fun x24=>jqN rfl (fO rfl)<|bnE h fun r25 w26 h=>JR.loud rfl rfl rfl (aJ.callQ XB (HP U x4.1 x4.2.1 (List.zip x4.2.2 r2.2) x24 v3 r25 w26) rfl (aD.cons (aP (aC.res 3 rfl) cE) (aD.cons (bA (i:=4) (j:=5) rfl rfl bG) (aD.cons (aP (aC.res 0 rfl) rQ) (lH [6] rfl))))) rfl (fun x27=>(m_ [([4],[])] rfl)) fun x27=>bnE h fun r28 w29 h=>JR.loud rfl rfl rfl (aJ.callQ XD (FL U x4.1 x4.2.1 (List.zip x4.2.2 r2.2) x27.1 (List.zip x27.2 r25) r28 w29) rfl (aD.cons (aP (aC.res 5 rfl) cE) (aD.cons (bA (i:=6) (j:=7) rfl rfl bG) (aD.cons (bA (i:=0) (j:=1) rfl rfl cE) (lH [9] rfl))))) rfl (fun x30=>(m_ [] rfl)) fun x30=>jqN rfl (fO rfl)<|jqN rfl (eP rfl rfl)<|jqN rfl (eP rfl rfl)<|jqN rfl (nS rfl)<|bH 11 rfl rfl<|qkAsg rfl<|dtN<|aG<|aG<|tI (B:=Unit) (fun a32=>gW U p2 p3 p4 r2 r11 z14 r28 a32=some r) (fun a32 b33=>[(2,vU (p2)),(3,v4),(4,v5),(11,vP b5),(12,vP b16),(13,x30.1),(46,vB (a32))]) (fun a32 b33=>[Ar cR.raw x30.1 x30.2,gZ bO x30.2 r28.1,bS b16 [vS (r11.1),x13a,x13b] 36,bS b5 [x4.1,x4.2.1] 29,Ar bO x4.1 r2.1,Ar cR.raw x4.2.1 x4.2.2,gZ bM x4.2.2 r2.2]) (fun a32 b33=>[Sl aH x13a r11.2.1,Sl aE x13b z14,PF (Value.agg #[vS r11.1,x13a,x13b]),Sl bD v0 p0.2.1,Sl bD v1 p0.2.2.1,Sl bD v2 p0.2.2.2.1,Sl bD v3 p1,Sl bD v4 p3,Sl tJ v5 p4,Gb 0 (cellsOf BV pV)]) ?_ ?_
 ·refine aK<|qkMove rfl<|aB (rK rfl) rfl<|qkMove rfl ?_
  refine xH (by exact rfl) (by exact rfl) (fun hp168=>?_) (fun hp168=>?_)
  ·have h:=Kw hp168 h
   refine gdSkip rfl<|gdSkip rfl<|gdSkip rfl<|gdSkip rfl<|qkPkT rfl<|dtN ?_
   exact bV (true) () h SF (aV.ix [0,1,5,6,7,8,9] rfl rfl) (aD.refl _ _)
  have h:=Hg hp168 h
  refine aN rfl (gH 6 rfl rfl rfl rfl) rfl<|gyMove rfl<|bnE h fun r169 w170 h=>pX rfl (aJ.callQ Sb (xG U x4.1 x4.2.1 (List.zip x4.2.2 r2.2) x30.1 (List.zip x30.2 r28.1) r169 w170) rfl (aD.cons (aP (aC.res 7 rfl) cE) (aD.cons (bA (i:=8) (j:=9) rfl rfl bG) (aD.cons (bA (i:=0) (j:=1) rfl rfl cE) .nil)))) rfl fun x171=>aN rfl (rK rfl) rfl<|qkPkF rfl<|dtN ?_
  exact bV ((!r169)) () h SF (aV.ix [0,1,5,6,7,8,9] rfl rfl) (aD.refl _ _)
 intro a32 b33 h
 refine z_ h rfl (fun _ h=>?_) fun _ h=>?_
 ·refine sqR<|qkAsg rfl<|dtN<|aR<|aI ?_
  cases h
  exact vT rfl
 refine cJ<|sqR<|qkMove rfl<|qkMove rfl<|qkMove rfl<|bnE h fun r35 w36 h=>aF (aJ.callQ XE (HK U x30.1 (List.zip x30.2 r28.1) v4 r35 w36) rfl (aD.cons (bA (i:=0) (j:=1) rfl rfl cE) (lH [7] rfl))) rfl fun x37=>qkAsg rfl<|dtN<|sqR<|qkMove rfl<|qkMove rfl<|bnE h fun r38 w39 h=>aF (aJ.callQ XF (FM U x30.1 (List.zip x30.2 r28.1) x37.1 (List.zip x37.2 r35) r38 w39) rfl (aD.cons (bA (i:=2) (j:=3) rfl rfl cE) (aD.cons (bA (i:=0) (j:=1) rfl rfl cE) .nil))) rfl fun x40=>qkAsg rfl<|dtN<|aG<|tI (B:=Nat×Value×Value×Value×List Value) (fun a55=>kQ U r2 r28 r38 a55=some r) (fun a55 b56=>[(11,vP b5),(13,x30.1),(16,vU (r38)),(17,vP b56.1),(18,vI (a55.1))]) (fun a55 b56=>[bS b56.1 [b56.2.1,b56.2.2.1,b56.2.2.2.1,vI (a55.2.1),vI (a55.2.2.1),vI (a55.2.2.2.1),vI (a55.2.2.2.2.1),vU (a55.2.2.2.2.2.1)] 63,Ar g_ b56.2.1 a55.2.2.2.2.2.2.1,Ar g_ b56.2.2.1 a55.2.2.2.2.2.2.2.1,Ar cR.raw b56.2.2.2.1 b56.2.2.2.2,gZ bO b56.2.2.2.2 a55.2.2.2.2.2.2.2.2,Ar cR.raw x30.1 x30.2,gZ bO x30.2 r28.1,bS b5 [x4.1,x4.2.1] 29,Ar bO x4.1 r2.1,Ar cR.raw x4.2.1 x4.2.2,gZ bM x4.2.2 r2.2]) (fun a55 b56=>[Sl aH x13a r11.2.1,Sl aE x13b z14,PF (Value.agg #[vS r11.1,x13a,x13b]),Sl bD v0 p0.2.1,Sl bD v1 p0.2.2.1,Sl bD v2 p0.2.2.2.1,Sl bD v3 p1,Sl bD v4 p3,Sl tJ v5 p4,Gb 0 (cellsOf BV pV)]) ?_ ?_
 ·have⟨r136,w137,h⟩:=bnd h
  refine bnE h fun r139 w140 h=>Ey [0,0,0,0,8,31,63,127,127,0,767,2047] 11 [[0,1,2,3,4,5,6,7,8,9,10,11],[0,1,2,3,4,9,5,6,7,8,10,11],[0,1,2,3,9,4,5,6,7,8,10,11]] mixedOrders (by decide +kernel) (by decide +kernel) ?_
  intro o ho
  simp only[List.mem_cons,List.not_mem_nil,or_false]at ho
  rcases ho with rfl|rfl|rfl
  ·refine jkLdA 4 rfl<|jkLdA 5 rfl<|jkMove rfl<|jkMove rfl<|JR.loud rfl rfl rfl (aJ.callQ CZ (lS U v5 r136 w137) rfl (lH [8] rfl)) rfl (fun x147=>(m_ [([6],[]),([5],[])] rfl)) fun x147=>JR.loud rfl rfl rfl (aJ.callQ C_ (oU U x13a x13b x4.1 x4.2.1 (List.zip x4.2.2 r2.2) x37.1 (List.zip x37.2 r35) x147 r139 w140) rfl (aD.cons (aC.fact 0 rfl) (aD.cons (aC.fact 1 rfl) (aD.cons (aC.fact 2 rfl) (aD.cons (aP (aC.res 7 rfl) cE) (aD.cons (bA (i:=8) (j:=9) rfl rfl bG) (aD.cons (bA (i:=1) (j:=2) rfl rfl cE) (aD.cons (aP (aC.res 0 rfl) iP) (lH [9] rfl))))))))) rfl (fun x148=>(m_ [] rfl)) fun x148=>jqN rfl (fO rfl)<|jqN rfl (eP rfl rfl)<|jqN rfl (eP rfl rfl)<|JR.loud rfl rfl rfl (aJ.alloc (cs:=CQ) rfl rfl) rfl (fun b149=>(m_ [([11],[]),([10],[])] rfl)) fun b149=>bX (Know.one ((aP (aC.res 1 rfl) iP))) fun ho151=>bX (Know.one ((aP (aC.res 2 rfl) iP))) fun ho152=>bX (Know.one (aC.sl (bA (i:=3) (j:=4) rfl rfl cE))) fun ho153=>oW rfl rfl rfl (nC 0 (vs:=[x148.1,x148.2.1,x148.2.2.1,vI (r139.1.2.2.2.1),vI (r139.1.2.2.2.2.1),vI (r139.1.2.2.2.2.2.1),vI (r139.1.2.2.2.2.2.2.1),vU (r139.1.2.2.2.2.2.2.2)]) rfl rfl (cK ho151 (cK ho152 (cK ho153 (cK rfl (cK rfl (cK rfl (cK rfl (cK rfl rfl)))))))) rfl rfl rfl) (fun x150=>(m_ [] rfl)) fun x150=>bH 11 rfl rfl<|qkAsg rfl<|dtN ?_
   exact bV (r139.2,r139.1.2.2.2.1,r139.1.2.2.2.2.1,r139.1.2.2.2.2.2.1,r139.1.2.2.2.2.2.2.1,r139.1.2.2.2.2.2.2.2,r139.1.1,r139.1.2.1,r139.1.2.2.1) (b149,x148.1,x148.2.1,x148.2.2.1,x148.2.2.2) h SF (aV.ix [0,1,2,3,4,8,9,11,12,13,14] rfl rfl) (aD.refl _ _)
  ·refine jkLdA 4 rfl<|jkLdA 5 rfl<|jkMove rfl<|jkMove rfl<|JR.loud rfl rfl rfl (aJ.callQ CZ (lS U v5 r136 w137) rfl (lH [8] rfl)) rfl (fun x154=>(m_ [([6],[]),([5],[])] rfl)) fun x154=>JR.loud rfl rfl rfl (aJ.alloc (cs:=CQ) rfl rfl) rfl (fun b155=>(m_ [([7],[]),([6],[])] rfl)) fun b155=>JR.loud rfl rfl rfl (aJ.callQ C_ (oU U x13a x13b x4.1 x4.2.1 (List.zip x4.2.2 r2.2) x37.1 (List.zip x37.2 r35) x154 r139 w140) rfl (aD.cons (aC.fact 0 rfl) (aD.cons (aC.fact 1 rfl) (aD.cons (aC.fact 2 rfl) (aD.cons (aP (aC.res 8 rfl) cE) (aD.cons (bA (i:=9) (j:=10) rfl rfl bG) (aD.cons (bA (i:=2) (j:=3) rfl rfl cE) (aD.cons (aP (aC.res 1 rfl) iP) (lH [9] rfl))))))))) rfl (fun x156=>(m_ [] rfl)) fun x156=>jqN rfl (fO rfl)<|jqN rfl (eP rfl rfl)<|jqN rfl (eP rfl rfl)<|bX (Know.one ((aP (aC.res 0 rfl) iP))) fun ho158=>bX (Know.one ((aP (aC.res 1 rfl) iP))) fun ho159=>bX (Know.one (aC.sl (bA (i:=2) (j:=3) rfl rfl cE))) fun ho160=>oW rfl rfl rfl (nC 4 (vs:=[x156.1,x156.2.1,x156.2.2.1,vI (r139.1.2.2.2.1),vI (r139.1.2.2.2.2.1),vI (r139.1.2.2.2.2.2.1),vI (r139.1.2.2.2.2.2.2.1),vU (r139.1.2.2.2.2.2.2.2)]) rfl rfl (cK ho158 (cK ho159 (cK ho160 (cK rfl (cK rfl (cK rfl (cK rfl (cK rfl rfl)))))))) rfl rfl rfl) (fun x157=>(m_ [] rfl)) fun x157=>bH 11 rfl rfl<|qkAsg rfl<|dtN ?_
   exact bV (r139.2,r139.1.2.2.2.1,r139.1.2.2.2.2.1,r139.1.2.2.2.2.2.1,r139.1.2.2.2.2.2.2.1,r139.1.2.2.2.2.2.2.2,r139.1.1,r139.1.2.1,r139.1.2.2.1) (b155,x156.1,x156.2.1,x156.2.2.1,x156.2.2.2) h SF (aV.ix [4,0,1,2,3,8,9,11,12,13,14] rfl rfl) (aD.refl _ _)
  refine jkLdA 4 rfl<|jkLdA 5 rfl<|jkMove rfl<|jkMove rfl<|JR.loud rfl rfl rfl (aJ.alloc (cs:=CQ) rfl rfl) rfl (fun b161=>(m_ [([6],[]),([5],[])] rfl)) fun b161=>JR.loud rfl rfl rfl (aJ.callQ CZ (lS U v5 r136 w137) rfl (lH [8] rfl)) rfl (fun x162=>(m_ [([7],[]),([6],[])] rfl)) fun x162=>JR.loud rfl rfl rfl (aJ.callQ C_ (oU U x13a x13b x4.1 x4.2.1 (List.zip x4.2.2 r2.2) x37.1 (List.zip x37.2 r35) x162 r139 w140) rfl (aD.cons (aC.fact 0 rfl) (aD.cons (aC.fact 1 rfl) (aD.cons (aC.fact 2 rfl) (aD.cons (aP (aC.res 8 rfl) cE) (aD.cons (bA (i:=9) (j:=10) rfl rfl bG) (aD.cons (bA (i:=2) (j:=3) rfl rfl cE) (aD.cons (aP (aC.res 0 rfl) iP) (lH [9] rfl))))))))) rfl (fun x163=>(m_ [] rfl)) fun x163=>jqN rfl (fO rfl)<|jqN rfl (eP rfl rfl)<|jqN rfl (eP rfl rfl)<|bX (Know.one ((aP (aC.res 0 rfl) iP))) fun ho165=>bX (Know.one ((aP (aC.res 1 rfl) iP))) fun ho166=>bX (Know.one (aC.sl (bA (i:=2) (j:=3) rfl rfl cE))) fun ho167=>oW rfl rfl rfl (nC 5 (vs:=[x163.1,x163.2.1,x163.2.2.1,vI (r139.1.2.2.2.1),vI (r139.1.2.2.2.2.1),vI (r139.1.2.2.2.2.2.1),vI (r139.1.2.2.2.2.2.2.1),vU (r139.1.2.2.2.2.2.2.2)]) rfl rfl (cK ho165 (cK ho166 (cK ho167 (cK rfl (cK rfl (cK rfl (cK rfl (cK rfl rfl)))))))) rfl rfl rfl) (fun x164=>(m_ [] rfl)) fun x164=>bH 11 rfl rfl<|qkAsg rfl<|dtN ?_
  exact bV (r139.2,r139.1.2.2.2.1,r139.1.2.2.2.2.1,r139.1.2.2.2.2.2.1,r139.1.2.2.2.2.2.2.1,r139.1.2.2.2.2.2.2.2,r139.1.1,r139.1.2.1,r139.1.2.2.1) (b161,x163.1,x163.2.1,x163.2.2.1,x163.2.2.2) h SF (aV.ix [5,0,1,2,3,8,9,11,12,13,14] rfl rfl) (aD.refl _ _)
 intro a55 b56 h
 refine aG<|sqR<|qkMove rfl<|qkNeq rfl<|dtN ?_
 refine eF h rfl (fun h=>?_) fun h=>?_
 ·refine sqR<|qkAsg rfl<|dtN<|aR<|aI ?_
  cases h
  exact vT rfl
 refine cJ<|sqR<|qkMove rfl<|aB (iL rfl (bA (i:=5) (j:=6) rfl rfl cE) rfl) rfl<|ckE h fun j58 h=>aF (oO (e:=bO) (0:Int) rfl rfl rfl rfl j58 rfl rfl rfl) rfl fun u59=>qkAsg rfl<|dtN<|aG<|tI (B:=Unit) (fun a61=>e_ U r2 r38 a55 a61=some r) (fun a61 b62=>[(11,vP b5),(16,vU (r38)),(17,vP b56.1),(19,u59)]) (fun a61 b62=>[Ar bO u59 a61,bS b56.1 [b56.2.1,b56.2.2.1,b56.2.2.2.1,vI (a55.2.1),vI (a55.2.2.1),vI (a55.2.2.2.1),vI (a55.2.2.2.2.1),vU (a55.2.2.2.2.2.1)] 63,Ar g_ b56.2.1 a55.2.2.2.2.2.2.1,Ar g_ b56.2.2.1 a55.2.2.2.2.2.2.2.1,Ar cR.raw b56.2.2.2.1 b56.2.2.2.2,gZ bO b56.2.2.2.2 a55.2.2.2.2.2.2.2.2,bS b5 [x4.1,x4.2.1] 29,Ar bO x4.1 r2.1,Ar cR.raw x4.2.1 x4.2.2,gZ bM x4.2.2 r2.2]) (fun a61 b62=>[Sl aH x13a r11.2.1,Sl aE x13b z14,PF (Value.agg #[vS r11.1,x13a,x13b]),Sl bD v0 p0.2.1,Sl bD v1 p0.2.2.1,Sl bD v2 p0.2.2.2.1,Sl bD v3 p1,Sl bD v4 p3,Sl tJ v5 p4,Gb 0 (cellsOf BV pV)]) ?_ ?_
 ·refine sqR<|qkAsg rfl<|dtN<|aO<|Ap (B:=Unit) (cA U r2 r38 a55) (fun a112 b113=>[(11,vP b5),(16,vU (r38)),(17,vP b56.1),(19,u59),(20,vI (a112.1))]) (fun a112 b113=>[Ar bO u59 a112.2,bS b56.1 [b56.2.1,b56.2.2.1,b56.2.2.2.1,vI (a55.2.1),vI (a55.2.2.1),vI (a55.2.2.2.1),vI (a55.2.2.2.2.1),vU (a55.2.2.2.2.2.1)] 63,Ar g_ b56.2.1 a55.2.2.2.2.2.2.1,Ar g_ b56.2.2.1 a55.2.2.2.2.2.2.2.1,Ar cR.raw b56.2.2.2.1 b56.2.2.2.2,gZ bO b56.2.2.2.2 a55.2.2.2.2.2.2.2.2,bS b5 [x4.1,x4.2.1] 29,Ar bO x4.1 r2.1,Ar cR.raw x4.2.1 x4.2.2,gZ bM x4.2.2 r2.2]) (fun a112 b113=>[Sl aH x13a r11.2.1,Sl aE x13b z14,PF (Value.agg #[vS r11.1,x13a,x13b]),Sl bD v0 p0.2.1,Sl bD v1 p0.2.2.1,Sl bD v2 p0.2.2.2.1,Sl bD v3 p1,Sl bD v4 p3,Sl tJ v5 p4,Gb 0 (cellsOf BV pV)]) ((0:Int),(List.replicate (Int.toNat (List.length r28.1:Int)) (0:Int))) () h SF (aV.ix [0,1,2,3,4,5,8,9,10,11] rfl rfl) (aD.refl _ _) ?_
  intro k114 a112 b113 h
  refine aG<|sqR<|qkMove rfl<|qkFld rfl<|qkLd 1 rfl<|aB (fI rfl (aP (aC.res 2 rfl) iP) rfl) rfl<|qkLss rfl<|dtN ?_
  refine eF h rfl (fun h=>?_) fun h=>?_
  ·refine cJ<|aG<|tI (B:=Unit) (fun a117=>gX a112 (bE (cA U r2 r38 a55) k114) a117=some r) (fun a117 b118=>[(11,vP b5),(16,vU (r38)),(17,vP b56.1),(19,u59),(20,vI (a112.1))]) (fun a117 b118=>[Ar bO u59 a117,bS b56.1 [b56.2.1,b56.2.2.1,b56.2.2.2.1,vI (a55.2.1),vI (a55.2.2.1),vI (a55.2.2.2.1),vI (a55.2.2.2.2.1),vU (a55.2.2.2.2.2.1)] 63,Ar g_ b56.2.1 a55.2.2.2.2.2.2.1,Ar g_ b56.2.2.1 a55.2.2.2.2.2.2.2.1,Ar cR.raw b56.2.2.2.1 b56.2.2.2.2,gZ bO b56.2.2.2.2 a55.2.2.2.2.2.2.2.2,bS b5 [x4.1,x4.2.1] 29,Ar bO x4.1 r2.1,Ar cR.raw x4.2.1 x4.2.2,gZ bM x4.2.2 r2.2]) (fun a117 b118=>[Sl aH x13a r11.2.1,Sl aE x13b z14,PF (Value.agg #[vS r11.1,x13a,x13b]),Sl bD v0 p0.2.1,Sl bD v1 p0.2.2.1,Sl bD v2 p0.2.2.2.1,Sl bD v3 p1,Sl bD v4 p3,Sl tJ v5 p4,Gb 0 (cellsOf BV pV)]) ?_ ?_
   ·refine aO<|sqR<|qkAsg rfl<|dtN<|aO<|Ap (B:=Unit) (dX U a55 a112 (bE (cA U r2 r38 a55) k114)) (fun a122 b123=>[(11,vP b5),(16,vU (r38)),(17,vP b56.1),(19,u59),(20,vI (a112.1)),(21,vI (a122.1))]) (fun a122 b123=>[Ar bO u59 a122.2,bS b56.1 [b56.2.1,b56.2.2.1,b56.2.2.2.1,vI (a55.2.1),vI (a55.2.2.1),vI (a55.2.2.2.1),vI (a55.2.2.2.2.1),vU (a55.2.2.2.2.2.1)] 63,Ar g_ b56.2.1 a55.2.2.2.2.2.2.1,Ar g_ b56.2.2.1 a55.2.2.2.2.2.2.2.1,Ar cR.raw b56.2.2.2.1 b56.2.2.2.2,gZ bO b56.2.2.2.2 a55.2.2.2.2.2.2.2.2,bS b5 [x4.1,x4.2.1] 29,Ar bO x4.1 r2.1,Ar cR.raw x4.2.1 x4.2.2,gZ bM x4.2.2 r2.2]) (fun a122 b123=>[Sl aH x13a r11.2.1,Sl aE x13b z14,PF (Value.agg #[vS r11.1,x13a,x13b]),Sl bD v0 p0.2.1,Sl bD v1 p0.2.2.1,Sl bD v2 p0.2.2.2.1,Sl bD v3 p1,Sl bD v4 p3,Sl tJ v5 p4,Gb 0 (cellsOf BV pV)]) ((0:Int),a112.2) () h SF (aV.refl _) (aD.refl _ _) ?_
    intro k124 a122 b123 h
    refine aG<|sqR<|qkMove rfl<|qkMove rfl<|aB (fI rfl (aP (aC.res 0 rfl) cE) rfl) rfl<|qkLss rfl<|dtN ?_
    refine eF h rfl (fun h=>?_) fun h=>?_
    ·refine cJ<|aG<|tI (B:=Unit) (fun a127=>fD a122 (bE (dX U a55 a112 (bE (cA U r2 r38 a55) k114)) k124) a127=some r) (fun a127 b128=>[(11,vP b5),(16,vU (r38)),(17,vP b56.1),(19,u59),(20,vI (a112.1)),(21,vI (a122.1))]) (fun a127 b128=>[Ar bO u59 a127,bS b56.1 [b56.2.1,b56.2.2.1,b56.2.2.2.1,vI (a55.2.1),vI (a55.2.2.1),vI (a55.2.2.2.1),vI (a55.2.2.2.2.1),vU (a55.2.2.2.2.2.1)] 63,Ar g_ b56.2.1 a55.2.2.2.2.2.2.1,Ar g_ b56.2.2.1 a55.2.2.2.2.2.2.2.1,Ar cR.raw b56.2.2.2.1 b56.2.2.2.2,gZ bO b56.2.2.2.2 a55.2.2.2.2.2.2.2.2,bS b5 [x4.1,x4.2.1] 29,Ar bO x4.1 r2.1,Ar cR.raw x4.2.1 x4.2.2,gZ bM x4.2.2 r2.2]) (fun a127 b128=>[Sl aH x13a r11.2.1,Sl aE x13b z14,PF (Value.agg #[vS r11.1,x13a,x13b]),Sl bD v0 p0.2.1,Sl bD v1 p0.2.2.1,Sl bD v2 p0.2.2.2.1,Sl bD v3 p1,Sl bD v4 p3,Sl tJ v5 p4,Gb 0 (cellsOf BV pV)]) ?_ ?_
     ·refine aO<|sqR<|qkFld rfl<|qkLd 1 rfl<|qkMove rfl<|ckE h fun j129 h=>aB (aX rfl rfl (aP (aC.res 2 rfl) iP) rfl rfl j129) rfl<|aB (bQ rfl (aP (aC.res 2 rfl) iP) rfl rfl rfl Bn j129) rfl<|qkMove rfl<|bnE h fun r130 w131 h=>aF (aJ.callQ GE (wT U  r130 w131) rfl .nil) rfl fun x132=>dtN ?_
      refine z_ h rfl (fun _ h=>?_) fun _ h=>?_
      ·refine aK<|qkMove rfl<|qkMove rfl<|ckE h fun j134 h=>aB (aX rfl rfl (aP (aC.res 0 rfl) cE) rfl rfl j134) rfl<|aB (bQ rfl (aP (aC.res 0 rfl) cE) rfl rfl rfl cZ j134) rfl<|qkAdd rfl<|ckE h fun j135 h=>aB (aX rfl rfl (aP (aC.res 0 rfl) cE) rfl rfl j135) rfl<|uA 0 (wI .i64 ((at' a122.2 a122.1)+(1:Int))) j135 rfl rfl rfl rfl rfl rfl rfl<|dK<|inT ?_
       exact fM (List.set a122.2 (Int.toNat a122.1) (wI .i64 ((at' a122.2 a122.1)+(1:Int)))) () h SF rfl
      refine dD<|inT ?_
      exact fM (a122.2) () h SF rfl
     intro a127 b128 h
     unfold fD at h
     refine aK<|qkMove rfl<|qkAdd rfl<|qkAsg rfl<|dtN ?_
     exact xV ((wI .i64 (a122.1+(1:Int))),a127) () h SF rfl
    refine qE<|eC<|eC<|wK<|inT ?_
    exact fM (a122.2) () h SF rfl
   intro a117 b118 h
   unfold gX at h
   refine aK<|qkMove rfl<|qkAdd rfl<|qkAsg rfl<|dtN ?_
   exact xV ((wI .i64 (a112.1+(1:Int))),a117) () h SF rfl
  refine eZ ?_
  exact fM (a112.2) () h SF rfl
 intro a61 b62 h
 refine aG ?_
 refine JR.start [0,0,3,0,0,31,63,127] 5 mixedOrders (by decide +kernel) ?_
 refine JR.open (by exact rfl) ?_
 refine jkLdA 6 rfl<|jkMove rfl<|bnE h fun r63 w64 h=>JR.loud rfl rfl rfl (aJ.callQ Sa (wS U x4.1 x4.2.1 (List.zip x4.2.2 r2.2) r63 w64) rfl (aD.cons (aP (aC.res 7 rfl) cE) (aD.cons (bA (i:=8) (j:=9) rfl rfl bG) .nil))) rfl (fun x65=>(m_ [] rfl)) fun x65=>bI rfl (aV.cons 6 rfl .nil) .nil (gH 0 rfl rfl rfl rfl) (aM.h (aV.ix [6] rfl rfl) .nil aM.z)<|jqN rfl (fO rfl)<|bH 5 rfl rfl<|bnE h fun r66 w67 h=>aF (aJ.callQ Sa (wS U x4.1 x4.2.1 (List.zip x4.2.2 r2.2) r66 w67) rfl (aD.cons (aP (aC.res 7 rfl) cE) (aD.cons (bA (i:=8) (j:=9) rfl rfl bG) .nil))) rfl fun x68=>qkAsg rfl<|qkAsg rfl<|dtN<|aG<|tI (B:=Unit) (fun a69=>kR U r2 a55 a69=some r) (fun a69 b70=>[(11,vP b5),(17,vP b56.1)]) (fun a69 b70=>[bS b56.1 [b56.2.1,b56.2.2.1,b56.2.2.2.1,vI (a55.2.1),vI (a55.2.2.1),vI (a55.2.2.2.1),vI (a55.2.2.2.2.1),vU (a55.2.2.2.2.2.1)] 63,Ar g_ b56.2.1 a55.2.2.2.2.2.2.1,Ar g_ b56.2.2.1 a55.2.2.2.2.2.2.2.1,Ar cR.raw b56.2.2.2.1 b56.2.2.2.2,gZ bO b56.2.2.2.2 a55.2.2.2.2.2.2.2.2,bS b5 [x4.1,x4.2.1] 29,Ar bO x4.1 r2.1,Ar cR.raw x4.2.1 x4.2.2,gZ bM x4.2.2 r2.2]) (fun a69 b70=>[Sl aH x13a r11.2.1,Sl aE x13b z14,PF (Value.agg #[vS r11.1,x13a,x13b]),Sl bD v0 p0.2.1,Sl bD v1 p0.2.2.1,Sl bD v2 p0.2.2.2.1,Sl bD v3 p1,Sl bD v4 p3,Sl tJ v5 p4,Gb 0 (cellsOf BV pV)]) ?_ ?_
 ·refine sqR<|qkAsg rfl<|dtN<|aO<|Ap (B:=Unit) (dW U r2 a55 a61 r63 r66) (fun a83 b84=>[(11,vP b5),(17,vP b56.1),(19,u59),(22,vU (r63)),(23,vU (r66)),(24,vI (a83))]) (fun a83 b84=>[Ar bO u59 a61,bS b56.1 [b56.2.1,b56.2.2.1,b56.2.2.2.1,vI (a55.2.1),vI (a55.2.2.1),vI (a55.2.2.2.1),vI (a55.2.2.2.2.1),vU (a55.2.2.2.2.2.1)] 63,Ar g_ b56.2.1 a55.2.2.2.2.2.2.1,Ar g_ b56.2.2.1 a55.2.2.2.2.2.2.2.1,Ar cR.raw b56.2.2.2.1 b56.2.2.2.2,gZ bO b56.2.2.2.2 a55.2.2.2.2.2.2.2.2,bS b5 [x4.1,x4.2.1] 29,Ar bO x4.1 r2.1,Ar cR.raw x4.2.1 x4.2.2,gZ bM x4.2.2 r2.2]) (fun a83 b84=>[Sl aH x13a r11.2.1,Sl aE x13b z14,PF (Value.agg #[vS r11.1,x13a,x13b]),Sl bD v0 p0.2.1,Sl bD v1 p0.2.2.1,Sl bD v2 p0.2.2.2.1,Sl bD v3 p1,Sl bD v4 p3,Sl tJ v5 p4,Gb 0 (cellsOf BV pV)]) (0:Int) () h SF (aV.refl _) (aD.refl _ _) ?_
  intro k85 a83 b84 h
  refine aG<|sqR<|qkMove rfl<|qkMove rfl<|aB (fI rfl (aP (aC.res 0 rfl) cE) rfl) rfl<|qkLss rfl<|dtN ?_
  refine eF h rfl (fun h=>?_) fun h=>?_
  ·refine cJ<|aG<|aO<|aG<|tI (B:=Unit) (fun a88=>cL a83 (bE (dW U r2 a55 a61 r63 r66) k85) a88=some r) (fun a88 b89=>[(11,vP b5),(17,vP b56.1),(19,u59),(22,vU (r63)),(23,vU (r66)),(24,vI (a83)),(136,vB (a88))]) (fun a88 b89=>[Ar bO u59 a61,bS b56.1 [b56.2.1,b56.2.2.1,b56.2.2.2.1,vI (a55.2.1),vI (a55.2.2.1),vI (a55.2.2.2.1),vI (a55.2.2.2.2.1),vU (a55.2.2.2.2.2.1)] 63,Ar g_ b56.2.1 a55.2.2.2.2.2.2.1,Ar g_ b56.2.2.1 a55.2.2.2.2.2.2.2.1,Ar cR.raw b56.2.2.2.1 b56.2.2.2.2,gZ bO b56.2.2.2.2 a55.2.2.2.2.2.2.2.2,bS b5 [x4.1,x4.2.1] 29,Ar bO x4.1 r2.1,Ar cR.raw x4.2.1 x4.2.2,gZ bM x4.2.2 r2.2]) (fun a88 b89=>[Sl aH x13a r11.2.1,Sl aE x13b z14,PF (Value.agg #[vS r11.1,x13a,x13b]),Sl bD v0 p0.2.1,Sl bD v1 p0.2.2.1,Sl bD v2 p0.2.2.2.1,Sl bD v3 p1,Sl bD v4 p3,Sl tJ v5 p4,Gb 0 (cellsOf BV pV)]) ?_ ?_
   ·refine aK<|qkMove rfl<|qkMove rfl<|ckE h fun j91 h=>aB (aX rfl rfl (aP (aC.res 0 rfl) cE) rfl rfl j91) rfl<|aB (bQ rfl (aP (aC.res 0 rfl) cE) rfl rfl rfl cZ j91) rfl<|aB (rZ rfl rfl) rfl<|qkMove rfl ?_
    refine AW h rfl (fun _ h=>?_) fun _ h=>?_
    ·refine gdSkip rfl<|gdSkip rfl<|gdSkip rfl<|gdSkip rfl<|gdSkip rfl<|gdSkip rfl<|zS (h:= ?_)
     refine zS (h:= ?_)
     refine zS (h:= ?_)
     refine zS (h:= ?_)
     refine gdSkip rfl<|qkPkT rfl<|qkMove rfl<|gdSkip rfl<|gdSkip rfl<|gdSkip rfl<|gdSkip rfl<|gdSkip rfl<|gdSkip rfl<|zS (h:= ?_)
     refine zS (h:= ?_)
     refine zS (h:= ?_)
     refine zS (h:= ?_)
     refine gdSkip rfl<|qkPkT rfl<|dtN ?_
     exact fM (true) () h SF rfl
    refine gyMove rfl<|gyMove rfl<|ckE h fun j93 h=>aN rfl (aX rfl rfl (aP (aC.res 0 rfl) cE) rfl rfl j93) rfl<|aN rfl (bQ rfl (aP (aC.res 0 rfl) cE) rfl rfl rfl cZ j93) rfl<|aN rfl (rZ rfl rfl) rfl<|gyMove rfl ?_
    refine AW h rfl (fun _ h=>?_) fun _ h=>?_
    ·refine gyMove rfl<|gyMove rfl<|bnE h fun r95 w96 h=>pX rfl (aJ.callQ GE (wT U  r95 w96) rfl .nil) rfl fun x97=>aN rfl (rK rfl) rfl<|aN rfl (yT rfl rfl) rfl<|qkPkF rfl<|qkMove rfl ?_
     refine xH (by exact rfl) (by exact rfl) (fun hp98=>?_) (fun hp98=>?_)
     ·have h:=Kw hp98 h
      refine gdSkip rfl<|gdSkip rfl<|gdSkip rfl<|gdSkip rfl<|gdSkip rfl<|gdSkip rfl<|zS (h:= ?_)
      refine zS (h:= ?_)
      refine zS (h:= ?_)
      refine zS (h:= ?_)
      refine gdSkip rfl<|qkPkT rfl<|dtN ?_
      exact fM (true) () h SF rfl
     have h:=Hg hp98 h
     refine gyMove rfl<|gyMove rfl<|ckE h fun j99 h=>aN rfl (aX rfl rfl (aP (aC.res 0 rfl) cE) rfl rfl j99) rfl<|aN rfl (bQ rfl (aP (aC.res 0 rfl) cE) rfl rfl rfl cZ j99) rfl<|aN rfl (rZ rfl rfl) rfl<|gyMove rfl ?_
     refine AW h rfl (fun _ h=>?_) fun _ h=>?_
     ·refine gyMove rfl<|gyMove rfl<|bnE h fun r101 w102 h=>pX rfl (aJ.callQ GE (wT U  r101 w102) rfl .nil) rfl fun x103=>aN rfl (rK rfl) rfl<|aN rfl (yT rfl rfl) rfl<|qkPkF rfl<|dtN ?_
      exact fM ((!r101)) () h SF rfl
     refine gdSkip rfl<|gdSkip rfl<|gdSkip rfl<|gdSkip rfl<|aN rfl (xN rfl rfl) rfl<|qkPkF rfl<|dtN ?_
     exact fM (false) () h SF rfl
    refine gdSkip rfl<|gdSkip rfl<|gdSkip rfl<|gdSkip rfl<|aN rfl (xN rfl rfl) rfl<|qkPkF rfl<|qkMove rfl<|gyMove rfl<|gyMove rfl<|ckE h fun j104 h=>aN rfl (aX rfl rfl (aP (aC.res 0 rfl) cE) rfl rfl j104) rfl<|aN rfl (bQ rfl (aP (aC.res 0 rfl) cE) rfl rfl rfl cZ j104) rfl<|aN rfl (rZ rfl rfl) rfl<|gyMove rfl ?_
    refine AW h rfl (fun _ h=>?_) fun _ h=>?_
    ·refine gyMove rfl<|gyMove rfl<|bnE h fun r106 w107 h=>pX rfl (aJ.callQ GE (wT U  r106 w107) rfl .nil) rfl fun x108=>aN rfl (rK rfl) rfl<|aN rfl (yT rfl rfl) rfl<|qkPkF rfl<|dtN ?_
     exact fM ((!r106)) () h SF rfl
    refine gdSkip rfl<|gdSkip rfl<|gdSkip rfl<|gdSkip rfl<|aN rfl (xN rfl rfl) rfl<|qkPkF rfl<|dtN ?_
    exact fM (false) () h SF rfl
   intro a88 b89 h
   refine z_ h rfl (fun _ h=>?_) fun _ h=>?_
   ·refine sqR<|qkAsg rfl<|dtN<|aR<|bL<|aI<|aI<|bL<|aI ?_
    cases h
    exact vT rfl
   refine dD<|inT<|aK<|qkMove rfl<|qkAdd rfl<|qkAsg rfl<|dtN ?_
   exact xV (wI .i64 (a83+(1:Int))) () h SF rfl
  refine eZ ?_
  exact bV () (()) h SF (aV.ix [1,2,3,4,5,6,7,8,9] rfl rfl) (aD.refl _ _)
 intro a69 b70 h
 refine aG<|tI (B:=Unit) (fun a72=>fC  a72=some r) (fun a72 b73=>[(10,vB (a72))]) (fun a72 b73=>[]) (fun a72 b73=>[Sl aH x13a r11.2.1,Sl aE x13b z14,PF (Value.agg #[vS r11.1,x13a,x13b]),Sl bD v0 p0.2.1,Sl bD v1 p0.2.2.1,Sl bD v2 p0.2.2.2.1,Sl bD v3 p1,Sl bD v4 p3,Sl tJ v5 p4,Gb 0 (cellsOf BV pV)]) ?_ ?_
 ·refine aK<|bnE h fun r74 w75 h=>aF (aJ.callQ R_ (Im U  r74 w75) rfl (lH [9] rfl)) rfl fun x76=>qkMove rfl ?_
  refine xH (by exact rfl) (by exact rfl) (fun hp77=>?_) (fun hp77=>?_)
  ·have h:=Kw hp77 h
   refine aN rfl (gH 5 rfl rfl rfl rfl) rfl<|aN rfl (dY rfl rfl rfl rfl rfl) rfl<|aN rfl (eX 0 rfl rfl rfl rfl rfl) rfl<|bnE h fun r78 w79 h=>pX rfl (aJ.callQ Sb (xG U x4.1 x4.2.1 (List.zip x4.2.2 r2.2) b56.2.2.2.1 (List.zip b56.2.2.2.2 a55.2.2.2.2.2.2.2.2) r78 w79) rfl (aD.cons (aP (aC.res 6 rfl) cE) (aD.cons (bA (i:=7) (j:=8) rfl rfl bG) (aD.cons (bA (i:=3) (j:=4) rfl rfl cE) .nil)))) rfl fun x80=>qkPkT rfl<|qkAsg rfl<|dtN ?_
   exact bV (r78) () h SF .nil (aD.refl _ _)
  have h:=Hg hp77 h
  refine gdSkip rfl<|gdSkip rfl<|gdSkip rfl<|gdSkip rfl<|qkPkF rfl<|qkAsg rfl<|dtN ?_
  exact bV (false) () h SF .nil (aD.refl _ _)
 intro a72 b73 h
 unfold fC at h
 refine aR ?_
 cases h
 exact kH rfl
end Go.Proofs.YtjlbcgddhnjcjaaGreatDoor
end
