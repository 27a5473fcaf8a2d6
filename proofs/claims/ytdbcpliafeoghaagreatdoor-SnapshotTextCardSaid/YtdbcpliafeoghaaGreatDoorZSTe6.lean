/- Models of functions with their proofs, by program (gen/xt.py), and plain laws, in one text. Conditions: none. -/
import Derived.Test.YtdbcpliafeoghaaGreatDoorZSTe5
import Derived.Test.YtdbcpliafeoghaaGreatDoorZSTe4
import Derived.Test.YtdbcpliafeoghaaGreatDoorZSTe3
import Derived.Test.YtdbcpliafeoghaaGreatDoorZSTe1
import Derived.OpenShut
import Derived.LaidLaws
import Derived.LaidHandle
import Derived.Lay
import Derived.MakeChecks
set_option linter.unusedVariables false
set_option linter.unusedSimpArgs false
set_option maxHeartbeats 4000000
set_option maxRecDepth 20000
section
namespace Go.Proofs.YtdbcpliafeoghaaGreatDoor
open Go.Sx
def snapshot_Legit_k2  (a6:Unit):Option (Bool):=
 some (true)
def snapshot_Legit_s1 (p1:List (List (Int))) (r8:List (Int)) (a13:Int) (ag12:(Int)->Option (Bool)):Option (Bool):=
 if a13<(List.length r8:Int)then(ck (0<=a13∧a13<(List.length r8:Int)) (ck (0<=a13∧a13<(List.length p1:Int)) (ck (0<=(5:Int)∧(5:Int)<(List.length (at' p1 a13):Int)) (if(at' (at' p1 a13) (5:Int))≠(at' r8 a13)then(some (false))else(ag12 (wI .i64 (a13+(1:Int))))))))else(snapshot_Legit_k2  (()))
def snapshot_Legit_k1 (fuel:Nat) (p0:List (Int)×(List (List (Int×Int)))) (p1:List (List (Int))) (a3:Bool):Option (Bool):=
 if a3=true then(some (false))else(Option.bind (m_snapshot_sums fuel ((p0.1,p0.2)) p1) fun r8=>(iter (snapshot_Legit_s1 p1 r8) fuel (0:Int)))
def snapshot_Legit_k3 (fuel:Nat) (p0:List (Int)×(List (List (Int×Int)))) (p1:List (List (Int))) (a28:List (List (Int))):Option (Bool):=
 Option.bind (m_wave_Legit fuel ((p0.1,p0.2)) a28) fun r30=>(snapshot_Legit_k1 fuel p0 p1 ((!r30)))
def snapshot_Legit_k4 (fuel:Nat) (p0:List (Int)×(List (List (Int×Int)))) (p1:List (List (Int))) (a37:List (List (Int))):Option (Bool):=
 snapshot_Legit_k3 fuel p0 p1 (a37)
def snapshot_Legit_s2 (fuel:Nat) (p0:List (Int)×(List (List (Int×Int)))) (p1:List (List (Int))) (a43:Int×List (List (Int))) (ag42:(Int×List (List (Int)))->Option (Bool)):Option (Bool):=
 if a43.1<(List.length p1:Int)then(ck (0<=a43.1∧a43.1<(List.length p1:Int)) (ck (0<=(0:Int)∧(0:Int)<=(4:Int)∧(4:Int)<=(4:Int)∧(4:Int)<=(List.length (at' p1 a43.1):Int)) (ck (0<=a43.1∧a43.1<(List.length a43.2:Int)) (ag42 ((wI .i64 (a43.1+(1:Int))),(List.set a43.2 (Int.toNat a43.1) (List.drop (Int.toNat (0:Int)) (List.take (Int.toNat (4:Int)) (at' p1 a43.1)))))))))else(snapshot_Legit_k4 fuel p0 p1 (a43.2))
def m_snapshot_Legit (fuel:Nat) (p0:List (Int)×(List (List (Int×Int)))) (p1:List (List (Int))):Option (Bool):=
 Option.bind (m_snapshot_configuration fuel ((p0.1,p0.2)) p1) fun r21=>(if(!r21)=true then(snapshot_Legit_k1 fuel p0 p1 (true))else(ck (0<=(List.length p1:Int)∧(List.length p1:Int)<=1099511627) (iter (snapshot_Legit_s2 fuel p0 p1) fuel ((0:Int),(List.replicate (Int.toNat (List.length p1:Int)) ([]:List Int))))))
theorem body29:HasBody Tryz.prog 29:=Tryz.call29
theorem t_snapshot_Legit (fuel:Nat) {p0:List (Int)×(List (List (Int×Int)))} {p1:List (List (Int))} (v0:Value)  (v1:Value)  (z2:List (Value×List (Int×Int)))  (v3:Value)  (z4:List (Value×List (Int))) (r:Bool) (h:m_snapshot_Legit fuel p0 p1=some r):
  Meets Tryz.prog 29 #[Value.agg #[v0,v1],v3] [Sl RI64 v0 p0.1,S2 RI64I64p v1 z2 p0.2,S2 RI64 v3 z4 p1] (fun x:Unit=>Value.bool (r)) (fun x l=>l) (fun _ l=>l):=by
 refine Meets.of (vs:=[Value.agg #[v0,v1],v3]) Tryz.func29 rfl Tryz.ntmps29 rfl fun c=> ?_
 unfold m_snapshot_Legit at h
 refine J.seq<|J.region<|J.loud (Loud.box (cs:=[v0,v1]) rfl rfl) rfl fun b1=>J.quiet (Y.assign rfl) rfl<|J.done<|J.thenN<|J.seq<|J.seq<|J.midI (A:=Bool) (B:=Unit) (fun a3=>snapshot_Legit_k1 fuel p0 p1 a3=some r) (fun a3 b4=>[(1,v3),(2,Value.pointer (some ⟨b1,0,none⟩)),(17,Value.bool (a3))]) (fun a3 b4=>[Blk b1 [v0,v1] 53]) (fun a3 b4=>[Sl RI64 v0 p0.1,S2 RI64I64p v1 z2 p0.2,S2 RI64 v3 z4 p1]) ?_ ?_
 ·refine JR.start [0,0,3,7,15,31,31,95,255,511,1023] 8 mixedOrders (by decide +kernel) ?_
  refine JR.open (by exact rfl) ?_
  refine JR.qt rfl (SubM.refl _) (SubL.nil) (Y.loadBAll 0 rfl rfl rfl rfl) HistOk.z<|JR.qt rfl (SubM.nil) (SubL.nil) (Y.move rfl) HistOk.z ?_
  have h:=bnd h;obtain⟨r21,hr22,h⟩:=h
  refine JR.loud rfl rfl rfl (Loud.callL body58 (t_snapshot_configuration fuel v0 v1 z2 v3 z4 r21 hr22) rfl (LentAll.cons (Lent.fact 0 rfl) (LentAll.cons (Lent.fact 1 rfl) (LentAll.cons (Lent.fact 2 rfl) .nil))) (fun _ _=>rfl)) rfl (fun x23=>(BsOk.b rfl (BsOk.b rfl BsOk.z))) fun x23=>JR.qt rfl (SubM.nil) (SubL.nil) (Y.not rfl) (HistOk.b rfl HistOk.z)<|JR.qt rfl (SubM.nil) (SubL.nil) (Y.move rfl) (HistOk.b rfl HistOk.z) ?_
  refine JR.guard (by exact rfl) (by exact rfl) (by exact rfl) (fun hp24=> ?_) (fun hp24=> ?_)
  ·have h:=ifP hp24 h
   refine JR.guardN rfl rfl rfl rfl<|JR.guardN rfl rfl rfl rfl<|JR.guardN rfl rfl rfl rfl<|JR.tailD 8 rfl rfl<|J.guardN rfl rfl rfl<|J.guardN rfl rfl rfl<|J.quiet (Y.pickT rfl rfl) rfl<|J.done<|J.thenN ?_
   exact J.meetI (true) (()) h SF (SubM.refl _) (LentAll.refl _ _)
  ·have h:=ifBN hp24 h
   refine JR.qtG rfl (SubM.refl _) (SubL.nil) (Y.loadBAll 0 rfl rfl rfl rfl) (HistOk.b rfl HistOk.z)<|JR.qtG rfl (SubM.nil) (SubL.nil) (Y.move rfl) (HistOk.b rfl HistOk.z)<|JR.inlCG (A:=List (List (Int))) (B:=Value×List Value) (vs:=[v3]) (fun a28=>snapshot_Legit_k3 fuel p0 p1 a28=some r) (fun a28 b29=>b29.1) (fun a28 b29=>[Ar Enc.raw b29.1 b29.2,Blk b1 [v0,v1] 53]) (fun a28 b29=>[Rlf RI64 b29.2 a28,Sl RI64 v0 p0.1,S2 RI64I64p v1 z2 p0.2,S2 RI64 v3 z4 p1]) rfl rfl rfl rfl (Enter.fn (show HasBody Tryz.prog 60 from Tryz.call60) rfl) Tryz.func60 rfl Tryz.ntmps60 rfl rfl (fun _ _=>(BsOk.b rfl (BsOk.h (SubM.cons 1 rfl (SubM.nil)) (SubL.nil) (BsOk.b rfl (BsOk.b rfl (BsOk.b rfl (BsOk.b rfl BsOk.z))))))) ?_ ?_
   ·refine J.seq<|J.region<|J.quiet (Y.assign rfl) rfl<|J.done<|J.thenN<|J.seq<|J.region<|J.quiet (Y.move rfl) rfl<|J.quiet (Y.lenN rfl (Lent.fact 2 rfl) rfl) rfl ?_
    have h:=ck_some h;obtain⟨hc33,h⟩:=h
    refine J.addRl RI64 (Int.toNat (List.length p1:Int))<|J.loud (Loud.makeS (e:=Enc.raw) (Value.slice none 0 0) rfl rfl rfl rfl hc33 rfl rfl rfl) rfl fun u34=>J.quiet (Y.assign rfl) rfl<|J.done<|J.thenN<|J.seq<|J.midI (A:=List (List (Int))) (B:=List Value) (fun a37=>snapshot_Legit_k4 fuel p0 p1 a37=some r) (fun a37 b38=>[(3,u34)]) (fun a37 b38=>[Ar Enc.raw u34 b38,Blk b1 [v0,v1] 53]) (fun a37 b38=>[Rlf RI64 b38 a37,Sl RI64 v0 p0.1,S2 RI64I64p v1 z2 p0.2,S2 RI64 v3 z4 p1]) ?_ ?_
    ·refine J.seq<|J.region<|J.quiet (Y.move rfl) rfl<|J.quiet (Y.lenN rfl (Lent.fact 3 rfl) rfl) rfl<|J.quiet (Y.move rfl) rfl<|J.done<|J.thenN<|J.block<|J.loopI (A:=Int×List (List (Int))) (B:=List Value) (snapshot_Legit_s2 fuel p0 p1) (fun a43 b44=>[(3,u34),(9,v3),(10,Value.int .i64 (List.length p1:Int)),(11,Value.int .i64 (a43.1))]) (fun a43 b44=>[Ar Enc.raw u34 b44,Blk b1 [v0,v1] 53]) (fun a43 b44=>[Rlf RI64 b44 a43.2,Sl RI64 v0 p0.1,S2 RI64I64p v1 z2 p0.2,S2 RI64 v3 z4 p1]) ((0:Int),(List.replicate (Int.toNat (List.length p1:Int)) ([]:List Int))) (List.replicate (Int.toNat (List.length p1:Int)) (Value.slice none 0 0)) h SF (SubM.refl _) (LentAll.refl _ _) ?_
     clear h
     intro k45 a43 b44 h
     unfold snapshot_Legit_s2 at h
     refine J.seq<|J.region<|J.quiet (Y.lss rfl rfl) rfl<|J.done<|J.thenN<|J.seq ?_
     refine J.condD (by exact rfl) (fun hp46=> ?_) (fun hp46=> ?_)
     ·have h:=ifP hp46 h
      refine J.skip<|J.thenN<|J.seq<|J.block<|J.seq<|J.region<|J.quiet (Y.move rfl) rfl ?_
      have h:=ck_some h;obtain⟨hc47,h⟩:=h
      refine J.quiet (Y.indexN rfl rfl (Lent.fact 3 rfl) rfl rfl hc47) rfl<|J.quiet (Y.loadRow rfl (Lent.fact 3 rfl) rfl rfl hc47) rfl<|J.quiet (Y.assign rfl) rfl<|J.quiet (Y.assign rfl) rfl<|J.done<|J.thenN<|J.region<|J.quiet (Y.move rfl) rfl<|J.quiet (Y.move rfl) rfl<|J.quiet (Y.move rfl) rfl ?_
      have h:=ck_some h;obtain⟨hc48,h⟩:=h
      refine J.quiet (Y.slice3R rfl rfl rfl rfl (Lent.el (Lent.fact 3 rfl) hc47.1 hc47.2) rfl rfl hc48) rfl ?_
      have h:=ck_some h;obtain⟨hc49,h⟩:=h
      refine J.quiet (Y.indexN rfl rfl (Lent.rowsL (i:=0) (j:=0) rfl rfl) rfl rfl hc49) rfl<|J.know (Know.one ((Lent.part3 (Lent.el (Lent.fact 3 rfl) hc47.1 hc47.2) rfl hc48))) fun ho50=>J.storeRl 0 0 hc49 rfl rfl rfl rfl ho50 rfl<|J.rlset (k:=Int.toNat a43.1) 0 (vs:=b44) rfl (Lent.part3 (Lent.el (Lent.fact 3 rfl) hc47.1 hc47.2) rfl hc48)<|J.done<|J.inN<|J.thenN<|J.region<|J.quiet (Y.addW rfl rfl) rfl<|J.quiet (Y.move rfl) rfl<|J.done<|J.thenN ?_
      exact J.againI ((wI .i64 (a43.1+(1:Int))),(List.set a43.2 (Int.toNat a43.1) (List.drop (Int.toNat (0:Int)) (List.take (Int.toNat (4:Int)) (at' p1 a43.1))))) (List.set b44 (Int.toNat a43.1) (sl3 ((at' z4 a43.1).1) (Int.toNat (0:Int)) (Int.toNat (4:Int)) (Int.toNat (4:Int)) 1)) h SF (SubM.refl _) (LentAll.refl _ _)
     ·have h:=ifN hp46 h
      refine J.exit<|J.thenX<|J.thenX<|J.inX<|J.thenN ?_
      exact J.meetI (a43.2) (b44) h SF (SubM.refl _) (LentAll.refl _ _)
    ·clear h
     intro a37 b38 h
     unfold snapshot_Legit_k4 at h
     refine J.seq<|J.region<|J.quiet (Y.move rfl) rfl<|J.quiet (Y.assign rfl) rfl<|J.done<|J.thenN<|J.ret ?_
     exact J.retM (a37) (u34,b38) h (.inl rfl) (Res.r1 rfl (RV.tmp rfl)) rfl (SubM.refl _) (LentAll.refl _ _)
   ·clear h
    intro a28 b29 h
    unfold snapshot_Legit_k3 at h
    refine JR.tailD 8 rfl rfl ?_
    have h:=bnd h;obtain⟨r30,hr31,h⟩:=h
    refine J.loudG rfl (Loud.callL body59 (t_wave_Legit fuel v0 v1 z2 b29.1 (List.zip b29.2 a28) r30 hr31) rfl (LentAll.cons (Lent.fact 1 rfl) (LentAll.cons (Lent.fact 2 rfl) (LentAll.cons (Lent.rowsL (i:=0) (j:=0) rfl rfl) .nil))) (fun _ _=>rfl)) rfl fun x32=>J.guardY rfl (Y.not rfl) rfl<|J.quiet (Y.pickF rfl rfl) rfl<|J.done<|J.thenN ?_
    exact J.meetI ((!r30)) (()) h SF (SubM.cons 1 rfl (SubM.nil)) (LentAll.cons (Lent.fact 1 rfl) (LentAll.cons (Lent.fact 2 rfl) (LentAll.cons (Lent.fact 3 rfl) .nil)))
 ·clear h
  intro a3 b4 h
  unfold snapshot_Legit_k1 at h
  refine J.cond (by exact rfl) (fun hp5=> ?_) (fun hp5=> ?_)
  ·have h:=ifP hp5 h
   refine J.seq<|J.region<|J.quiet (Y.assign rfl) rfl<|J.done<|J.thenN<|J.ret<|J.thenR ?_
   obtain rfl:=Option.some.inj h
   exact J.retG1 (()) rfl rfl (RV.tmp rfl) (SubM.nil) LentAll.nil
  ·have h:=ifBN hp5 h
   refine J.skip<|J.thenN<|J.seq<|J.midI (A:=Unit) (B:=Unit) (fun a6=>snapshot_Legit_k2  a6=some r) (fun a6 b7=>[]) (fun a6 b7=>[]) (fun a6 b7=>[Sl RI64 v0 p0.1,S2 RI64I64p v1 z2 p0.2,S2 RI64 v3 z4 p1]) ?_ ?_
   ·refine J.seq<|J.region<|J.quiet (Y.loadBAll 0 rfl rfl rfl rfl) rfl<|J.quiet (Y.move rfl) rfl ?_
    have h:=bnd h;obtain⟨r8,hr9,h⟩:=h
    refine J.loud (Loud.callL body61 (t_snapshot_sums fuel v0 v1 z2 v3 z4 r8 hr9) rfl (LentAll.cons (Lent.fact 0 rfl) (LentAll.cons (Lent.fact 1 rfl) (LentAll.cons (Lent.fact 2 rfl) .nil))) (fun _ _=>rfl)) rfl fun x10=>J.quiet (Y.lenS rfl (Lent.ar (Lent.res 0 rfl) FI64) rfl) rfl<|J.quiet (Y.move rfl) rfl<|J.done<|J.thenN<|J.block<|J.loopI (A:=Int) (B:=Unit) (snapshot_Legit_s1 p1 r8) (fun a13 b14=>[(1,v3),(20,x10),(21,Value.int .i64 (List.length r8:Int)),(22,Value.int .i64 (a13))]) (fun a13 b14=>[Ar EI64 x10 r8]) (fun a13 b14=>[Sl RI64 v0 p0.1,S2 RI64I64p v1 z2 p0.2,S2 RI64 v3 z4 p1]) (0:Int) (()) h SF (SubM.cons 0 rfl (SubM.nil)) (LentAll.refl _ _) ?_
    clear h
    intro k15 a13 b14 h
    unfold snapshot_Legit_s1 at h
    refine J.seq<|J.region<|J.quiet (Y.lss rfl rfl) rfl<|J.done<|J.thenN<|J.seq ?_
    refine J.condD (by exact rfl) (fun hp16=> ?_) (fun hp16=> ?_)
    ·have h:=ifP hp16 h
     refine J.skip<|J.thenN<|J.seq<|J.block<|J.seq<|J.region<|J.quiet (Y.move rfl) rfl ?_
     have h:=ck_some h;obtain⟨hc17,h⟩:=h
     refine J.quiet (Y.indexS rfl rfl (Lent.ar (Lent.res 0 rfl) FI64) rfl rfl hc17) rfl<|J.quiet (Y.loadS0 rfl (Lent.ar (Lent.res 0 rfl) FI64) rfl rfl rfl RI64c0 hc17) rfl<|J.quiet (Y.assign rfl) rfl<|J.quiet (Y.assign rfl) rfl<|J.done<|J.thenN<|J.seq<|J.region<|J.quiet (Y.move rfl) rfl<|J.quiet (Y.move rfl) rfl ?_
     have h:=ck_some h;obtain⟨hc18,h⟩:=h
     refine J.quiet (Y.indexN rfl rfl (Lent.fact 2 rfl) rfl rfl hc18) rfl<|J.quiet (Y.loadRow rfl (Lent.fact 2 rfl) rfl rfl hc18) rfl ?_
     have h:=ck_some h;obtain⟨hc19,h⟩:=h
     refine J.quiet (Y.indexS rfl rfl (Lent.el (Lent.fact 2 rfl) hc18.1 hc18.2) rfl rfl hc19) rfl<|J.quiet (Y.loadS0 rfl (Lent.el (Lent.fact 2 rfl) hc18.1 hc18.2) rfl rfl rfl RI64c0 hc19) rfl<|J.quiet (Y.move rfl) rfl<|J.quiet (Y.neq rfl rfl) rfl<|J.done<|J.thenN ?_
     refine J.condD (by exact rfl) (fun hp20=> ?_) (fun hp20=> ?_)
     ·have h:=ifP hp20 h
      refine J.seq<|J.region<|J.quiet (Y.assign rfl) rfl<|J.done<|J.thenN<|J.ret<|J.inR<|J.thenR<|J.thenR<|J.inR<|J.thenR ?_
      obtain rfl:=Option.some.inj h
      exact J.retG1 (()) rfl rfl (RV.tmp rfl) (SubM.nil) LentAll.nil
     ·have h:=ifN hp20 h
      refine J.skip<|J.inN<|J.thenN<|J.region<|J.quiet (Y.addW rfl rfl) rfl<|J.quiet (Y.move rfl) rfl<|J.done<|J.thenN ?_
      exact J.againI (wI .i64 (a13+(1:Int))) (()) h SF (SubM.refl _) (LentAll.refl _ _)
    ·have h:=ifN hp16 h
     refine J.exit<|J.thenX<|J.thenX<|J.inX<|J.thenN ?_
     exact J.meetI (()) (()) h SF (SubM.nil) (LentAll.refl _ _)
   ·clear h
    intro a6 b7 h
    unfold snapshot_Legit_k2 at h
    refine J.seq<|J.region<|J.quiet (Y.assign rfl) rfl<|J.done<|J.thenN<|J.ret ?_
    obtain rfl:=Option.some.inj h
    exact J.retG1 (()) rfl rfl (RV.tmp rfl) (SubM.refl _) LentAll.nil
end Go.Proofs.YtdbcpliafeoghaaGreatDoor
end
section
set_option maxRecDepth 100000
namespace Go.Gx
open Go Go.Sx Go.Proofs Go.Proofs.YtdbcpliafeoghaaGreatDoor
noncomputable section
def hk128 (us:List GV) (H:GH):OR:=a1 us fun x0=>ob (dGraph H x0) fun p0=>ob (m_graph_Valid 1000 p0) fun r=>oBool r H
def hk22 (us:List GV) (H:GH):OR:=a2 us fun x0 x1=>ob (dNet H x0) fun p0=>ob (dSc .i64 x1) fun p1=>ob (m__world_Net__Tree 1000 p0 p1) fun r=>oGraph r H
def hk123 (us:List GV) (H:GH):OR:=a4 us fun x0 x1 x2 x3=>ob (dU32s H x0) fun p0=>ob (dSc .i64 x1) fun p1=>ob (dSc .u32 x2) fun p2=>ob (dSc .u32 x3) fun p3=>ob (m__daemon_Net__Permits 1000 p0 p1 p2 p3) fun r=>oBool r H
def hk92 (us:List GV) (H:GH):OR:=a4 us fun x0 x1 x2 x3=>ob (dU32s H x0) fun p0=>ob (dSc .i64 x1) fun p1=>ob (dSc .u32 x2) fun p2=>ob (dSc .u32 x3) fun p3=>ob (m__daemon_Net__Resolve 1000 p0 p1 p2 p3) fun r=>some (.int .u32 r,H)
def hk29 (us:List GV) (H:GH):OR:=a2 us fun x0 x1=>ob (dGraph H x0) fun p0=>ob (dConf H x1) fun p1=>ob (m_snapshot_Legit 1000 p0 p1) fun r=>oBool r H
def gext (f:Nat) (us:List GV) (H:GH):Option (GV×GH):=bif Nat.beq f 128 then hk128 us H else bif Nat.beq f 22 then hk22 us H else bif Nat.beq f 123 then hk123 us H else bif Nat.beq f 92 then hk92 us H else bif Nat.beq f 29 then hk29 us H else none
abbrev gl:Nat->Gls:=glb 0 (cellsOf EU8 tab0)
def gp:GP:=⟨tyTab,16,gext,gexn 164⟩
section
variable {T:Nat} {w0:Base (gl T)} {w:World} {ρ:Rho} {H H':GH} {g:GV} {us:List GV} {vs:List Value}
theorem hk128_ok (h:hk128 us H=some (g,H')) (R:Rel w0 ρ H w) (hr:RlL ρ us vs):CallSem Tryz.prog w0 ρ 128 vs w g H':=by
 obtain⟨x0,rfl,h⟩:=a1_some h
 obtain⟨p0,hp0,h⟩:=ob_some.1 h
 obtain⟨r,hm,h⟩:=ob_some.1 h
 obtain⟨V0,rfl,hv0⟩:=hr.one
 obtain⟨w0a,w0b,z0,rfl,f0a,f0b⟩:=dGraph_ok R hv0 hp0
 obtain⟨rfl,rfl⟩:=oBool_some h
 exact hook_plain body128 (t_graph_Valid 1000 (p0:=p0) w0a w0b z0 r hm) R (List.forall_mem_cons.2 ⟨f0a,List.forall_mem_cons.2 ⟨f0b,fun f hf=>absurd hf List.not_mem_nil⟩⟩) fun ρ=> .bool _
theorem hk22_ok (h:hk22 us H=some (g,H')) (R:Rel w0 ρ H w) (hr:RlL ρ us vs):CallSem Tryz.prog w0 ρ 22 vs w g H':=by
 obtain⟨x0,x1,rfl,h⟩:=a2_some h
 obtain⟨p0,hp0,h⟩:=ob_some.1 h
 obtain⟨p1,hp1,h⟩:=ob_some.1 h
 obtain⟨r,hm,h⟩:=ob_some.1 h
 obtain⟨V0,vs,rfl,hv0,hr⟩:=hr.of_cons
 obtain⟨V1,rfl,hv1⟩:=hr.one
 obtain⟨w0a,w0b,w0c,rfl,f0a,f0b,f0c⟩:=dNet_ok R hv0 hp0
 obtain rfl:=dSc_ok hv1 hp1
 obtain⟨h1,h2,h3,rfl,rfl⟩:=oGraph_some h
 exact hook_graph gI_ok gP_ok h1 h2 h3 body22 (t__world_Net__Tree 1000 (p0:=p0) (p1:=p1) w0a w0b w0c r hm) R (List.forall_mem_cons.2 ⟨f0a,List.forall_mem_cons.2 ⟨f0b,List.forall_mem_cons.2 ⟨f0c,fun f hf=>absurd hf List.not_mem_nil⟩⟩⟩)
theorem hk123_ok (h:hk123 us H=some (g,H')) (R:Rel w0 ρ H w) (hr:RlL ρ us vs):CallSem Tryz.prog w0 ρ 123 vs w g H':=by
 obtain⟨x0,x1,x2,x3,rfl,h⟩:=a4_some h
 obtain⟨p0,hp0,h⟩:=ob_some.1 h
 obtain⟨p1,hp1,h⟩:=ob_some.1 h
 obtain⟨p2,hp2,h⟩:=ob_some.1 h
 obtain⟨p3,hp3,h⟩:=ob_some.1 h
 obtain⟨r,hm,h⟩:=ob_some.1 h
 obtain⟨V0,vs,rfl,hv0,hr⟩:=hr.of_cons
 obtain⟨V1,vs,rfl,hv1,hr⟩:=hr.of_cons
 obtain⟨V2,vs,rfl,hv2,hr⟩:=hr.of_cons
 obtain⟨V3,rfl,hv3⟩:=hr.one
 have f0:=dU32s_ok R hv0 hp0
 obtain rfl:=dSc_ok hv1 hp1
 obtain rfl:=dSc_ok hv2 hp2
 obtain rfl:=dSc_ok hv3 hp3
 obtain⟨rfl,rfl⟩:=oBool_some h
 exact hook_plain body123 (t__daemon_Net__Permits 1000 (p0:=p0) (p1:=p1) (p2:=p2) (p3:=p3) V0 r hm) R (List.forall_mem_cons.2 ⟨f0,List.forall_mem_cons.2 ⟨R.glb,fun f hf=>absurd hf List.not_mem_nil⟩⟩) fun ρ=> .bool _
theorem hk92_ok (h:hk92 us H=some (g,H')) (R:Rel w0 ρ H w) (hr:RlL ρ us vs):CallSem Tryz.prog w0 ρ 92 vs w g H':=by
 obtain⟨x0,x1,x2,x3,rfl,h⟩:=a4_some h
 obtain⟨p0,hp0,h⟩:=ob_some.1 h
 obtain⟨p1,hp1,h⟩:=ob_some.1 h
 obtain⟨p2,hp2,h⟩:=ob_some.1 h
 obtain⟨p3,hp3,h⟩:=ob_some.1 h
 obtain⟨r,hm,h⟩:=ob_some.1 h
 obtain⟨V0,vs,rfl,hv0,hr⟩:=hr.of_cons
 obtain⟨V1,vs,rfl,hv1,hr⟩:=hr.of_cons
 obtain⟨V2,vs,rfl,hv2,hr⟩:=hr.of_cons
 obtain⟨V3,rfl,hv3⟩:=hr.one
 have f0:=dU32s_ok R hv0 hp0
 obtain rfl:=dSc_ok hv1 hp1
 obtain rfl:=dSc_ok hv2 hp2
 obtain rfl:=dSc_ok hv3 hp3
 cases h
 exact hook_plain body92 (t__daemon_Net__Resolve 1000 (p0:=p0) (p1:=p1) (p2:=p2) (p3:=p3) V0 r hm) R (List.forall_mem_cons.2 ⟨f0,List.forall_mem_cons.2 ⟨R.glb,fun f hf=>absurd hf List.not_mem_nil⟩⟩) fun ρ=> .int _ _
theorem hk29_ok (h:hk29 us H=some (g,H')) (R:Rel w0 ρ H w) (hr:RlL ρ us vs):CallSem Tryz.prog w0 ρ 29 vs w g H':=by
 obtain⟨x0,x1,rfl,h⟩:=a2_some h
 obtain⟨p0,hp0,h⟩:=ob_some.1 h
 obtain⟨p1,hp1,h⟩:=ob_some.1 h
 obtain⟨r,hm,h⟩:=ob_some.1 h
 obtain⟨V0,vs,rfl,hv0,hr⟩:=hr.of_cons
 obtain⟨V1,rfl,hv1⟩:=hr.one
 obtain⟨w0a,w0b,z0,rfl,f0a,f0b⟩:=dGraph_ok R hv0 hp0
 obtain⟨z1,f1⟩:=dConf_ok R hv1 hp1
 obtain⟨rfl,rfl⟩:=oBool_some h
 exact hook_plain body29 (t_snapshot_Legit 1000 (p0:=p0) (p1:=p1) w0a w0b z0 V1 z1 r hm) R (List.forall_mem_cons.2 ⟨f0a,List.forall_mem_cons.2 ⟨f0b,List.forall_mem_cons.2 ⟨f1,fun f hf=>absurd hf List.not_mem_nil⟩⟩⟩) fun ρ=> .bool _
theorem gext_ok {f:Nat} (h:gext f us H=some (g,H')) (R:Rel w0 ρ H w) (hr:RlL ρ us vs):CallSem Tryz.prog w0 ρ f vs w g H':=by
 unfold gext at h
 cases e0:Nat.beq f 128 with
 |true=>rw[e0]at h;rw[Nat.eq_of_beq_eq_true e0];exact hk128_ok h R hr
 |false=>
 rw[e0]at h
 cases e1:Nat.beq f 22 with
 |true=>rw[e1]at h;rw[Nat.eq_of_beq_eq_true e1];exact hk22_ok h R hr
 |false=>
 rw[e1]at h
 cases e2:Nat.beq f 123 with
 |true=>rw[e2]at h;rw[Nat.eq_of_beq_eq_true e2];exact hk123_ok h R hr
 |false=>
 rw[e2]at h
 cases e3:Nat.beq f 92 with
 |true=>rw[e3]at h;rw[Nat.eq_of_beq_eq_true e3];exact hk92_ok h R hr
 |false=>
 rw[e3]at h
 cases e4:Nat.beq f 29 with
 |true=>rw[e4]at h;rw[Nat.eq_of_beq_eq_true e4];exact hk29_ok h R hr
 |false=>
 rw[e4]at h
 cases h
end
theorem tabs_ok:TabOk Tryz.prog tyTab:=⟨tyTab_ok⟩
theorem rec_ok {gs:Gls} (w0:Base gs):CallOk Tryz.prog w0 (chOne tyTab 34 Tryz.f34):=chOne_ok tabs_ok mixedOrders Tryz.func34 Tryz.call34 (by kernel_rfl)
theorem def_ok (args:Array Value) (w:World) (hs:args.size=2):CallsDIn (FR none) 0 Tryz.prog 33 args .returning w fun e u' w'=>∃v,e = .returned v∧u' = .returning∧Ext w w':=by
 obtain⟨out,h,he⟩:=okN_spec (r:=evOps tyTab (chOne tyTab 34 Tryz.f34) (bodyOps Tryz.f33) (evC tyTab (chOne tyTab 34 Tryz.f34) (fun _ _ _ _=>none) (bodyRest Tryz.f33) 0 ⟨[],0,[]⟩ (retN [])) (bodyOps Tryz.f33).tail ⟨[(bodyDst Tryz.f33,.inil)],H0⟩) (by kernel_rfl)
 exact caught_ok (ch:=chOne tyTab 34 Tryz.f34) (lp:=fun _ _ _ _=>none) tabs_ok mixedOrders rec_ok loopOk_none Tryz.func33 rfl rfl rfl (by decide +kernel) (fun ρ w=>by simp[execOp,resolve,invoke,builtin]) (by kernel_rfl) (by kernel_rfl) rfl (by rw[hs];decide +kernel) h he
theorem gok {T:Nat} (w0:Base (gl T)):GOk Tryz.prog gp rtab.fns w0:=by
 refine⟨tabs_ok,mixedOrders,fun h=> ?_,fun h ρ w vs R hr=>gext_ok h R hr,fun h ρ w vs H R hr=>gexn_ok Tryz.func164 rfl rfl rfl rfl h ρ w vs H R hr,fun R hc h1 h2=> ?_⟩
 ·obtain⟨e,he,h⟩:=ob_some.1 (show ob (rtabF _) _=some _ from h)
  cases h
  obtain⟨q1,q2,q3⟩:=rtabF_fn he
  exact⟨q1,q2,okF_spec q3⟩
 ·exact cat_ok (tb:=tyTab) (T1:=3) (T2:=26) (cc:=33) tabs_ok Tryz.func16 Tryz.call16 Tryz.call33 rfl rfl rfl (alloc_z (by kernel_rfl)) (alloc_z (by kernel_rfl)) (store_z rfl rfl) (store_z rfl rfl) (load_z rfl rfl) (load_z rfl rfl) def_ok R hc h1 h2
end
end Go.Gx
end
section
namespace Go.Gx
open Go Go.Sx Go.RowKit
mutual
def shV (k:Nat):GV->GV
 | .ptr h o=> .ptr (k+h) o
 | .sl h o l s=> .sl (k+h) o l s
 | .map h=> .map (k+h)
 | .fn f a b=> .fn f (shL k a) (shL k b)
 | .agg cs=> .agg (shL k cs)
 | .tup vs=> .tup (shL k vs)
 | .int a b=> .int a b
 | .bool b=> .bool b
 | .str a b=> .str a b
 | .pnil=> .pnil
 | .snil=> .snil
 | .fnil=> .fnil
 | .inil=> .inil
 | .un=> .un
 | .bad=> .bad
 | .opn h=> .opn (k+h)
def shL (k:Nat):List GV->List GV
 | []=>[]
 |v::r=>shV k v::shL k r
end
theorem shL_get (k:Nat):∀(l:List GV) (i:Nat),(shL k l)[i]? = (l[i]?).map (shV k)
 | [],i=>rfl
 |v::r,0=>rfl
 |v::r,i+1=>by simpa [shL]using shL_get k r i
theorem shL_len (k:Nat):∀(l:List GV),(shL k l).length=l.length
 | []=>rfl
 |v::r=>by simp[shL,shL_len k r]
def shO (k:Nat):GO->GO
 | .cells cs=> .cells (shL k cs)
 | .mp es=> .mp (es.map fun e=>(shV k e.1,shV k e.2))
def shLoc (k:Nat) (l:Loc):Loc:={l with o:=shO k l.o}
theorem Rl.shift {ρ ρ':Rho} {k:Nat} (hρ:∀h l,ρ h=some l->ρ' (k+h)=some (shLoc k l)) {g:GV} {v:Value} (h:Rl ρ g v):Rl ρ' (shV k g) v:=by
 have lst:∀{us:List GV} {us':List Value},(∀(i:Nat) g v,us[i]? = some g->us'[i]? = some v->Rl ρ' (shV k g) v)->∀(i:Nat) g v,(shL k us)[i]? = some g->us'[i]? = some v->Rl ρ' g v:=by
  intro us us' hh i g v hg hv
  rw[shL_get]at hg
  obtain⟨g0,h0,rfl⟩:=Option.map_eq_some_iff.1 hg
  exact hh i g0 v h0 hv
 induction h with
 |int a n=>simp only[shV];exact .int a n
 |bool b=>simp only[shV];exact .bool b
 |str s=>simp only[shV];exact .str s
 |ptr off h=>simp only[shV];exact .ptr (l:=shLoc k _) off (hρ _ _ h)
 |pnil=>simp only[shV];exact .pnil
 |sl h hc ha=>simp only[shV];exact .sl (l:=shLoc k _) (hρ _ _ h) hc ha
 |snil=>simp only[shV];exact .snil
 |map h=>simp only[shV];exact .map (l:=shLoc k _) (hρ _ _ h)
 |fn f h1 h2 h3 h4 ih2 ih4=>simp only[shV];exact .fn f (by rw[shL_len];exact h1) (lst ih2) (by rw[shL_len];exact h3) (lst ih4)
 |fnil=>simp only[shV];exact .fnil
 |inil=>simp only[shV];exact .inil
 |agg h1 h2 h3 ih=>simp only[shV];exact .agg (by rw[shL_len];exact h1) (lst ih) h3
 |tup h1 h2 ih=>simp only[shV];exact .tup (by rw[shL_len];exact h1) (lst ih)
 |un=>simp only[shV];exact .un
 |bad v=>simp only[shV];exact .bad v
 |opn v h hx=>simp only[shV];exact .opn (l:=shLoc k _) v (hρ _ _ h) hx

abbrev OL:=List (Nat×Nat×GO)
def lkO:OL->Nat->Option (Nat×GO)
 | [],_=>none
 |x::r,h=>if h=x.1 then some x.2 else lkO r h
theorem lkO_mem {os:OL} {h:Nat} {p:Nat×GO} (hl:lkO os h=some p):(h,p)∈os:=by
 induction os with
 |nil=>cases hl
 |cons x r ih=>
  simp only[lkO]at hl
  split at hl
  ·rename_i e;cases hl;subst e;exact List.mem_cons_self
  ·exact List.mem_cons_of_mem _ (ih hl)
noncomputable def putO (k:Nat) (t:Tr (Nat×GO)):OL->Tr (Nat×GO)
 | []=>t
 |x::r=>(putO k t r).set (some (k+x.2.1,shO k x.2.2)) (k+x.1)
noncomputable def rawO:OL->Tr (Nat×GO)
 | []=> .lf
 |x::r=>(rawO r).set (some x.2) x.1
theorem rawO_get:∀(os:OL) (h:Nat),(rawO os).get h=lkO os h
 | [],h=>rfl
 |x::r,h=>by
  show((rawO r).set (some x.2) x.1).get h=_
  rw[Tr.get_set]
  simp only[lkO]
  split
  ·rfl
  ·exact rawO_get r h
theorem putO_get (k:Nat) (t:Tr (Nat×GO)):∀(os:OL) (h:Nat),(putO k t os).get h=if k<=h then(match lkO os (h - k)with|some p=>some (k+p.1,shO k p.2)|none=>t.get h)else t.get h
 | [],h=>by simp[putO,lkO]
 | x :: r, h => by
  show((putO k t r).set (some (k+x.2.1,shO k x.2.2)) (k+x.1)).get h=_
  rw[Tr.get_set,putO_get k t r h]
  by_cases e:h=k+x.1
  ·subst e
   rw[if_pos rfl,if_pos (by omega)]
   simp[lkO]
  ·rw[if_neg e]
   by_cases hk:k<=h
   ·rw[if_pos hk,if_pos hk]
    simp only[lkO]
    rw[if_neg (show¬h - k=x.1 by omega)]
   ·rw[if_neg hk,if_neg hk]
noncomputable def mkH (n:Nat) (os:OL):GH:=⟨n,rawO os⟩
noncomputable def GH.load (H:GH) (n:Nat) (os:OL):GH:=⟨H.n+n,putO H.n H.t os⟩
section
variable {gs:Gls} {w0:Base gs} {w w':World} {ρ ρ2:Rho} {H:GH} {n:Nat} {os:OL}
theorem GH.get_some {H:GH} {h:Nat} {o:GO}:H.get h=some o↔∃v,H.t.get h=some (v,o):=by
 unfold GH.get
 cases hh:H.t.get h with
 |none=>simp[ob]
 |some p=>obtain⟨a,b⟩:=p;simp[ob]
theorem GH.ver_some {H:GH} {h v:Nat}:H.ver h=some v↔∃o,H.t.get h=some (v,o):=by
 unfold GH.ver
 cases hh:H.t.get h with
 |none=>simp[ob]
 |some p=>obtain⟨a,b⟩:=p;simp[ob]
theorem Rel.sub {H2:GH} (R:Rel w0 ρ H w) (hn:H2.n=H.n) (hs:∀h p,H2.t.get h=some p->H.t.get h=some p):Rel w0 ρ H2 w:=by
 have g:∀h o,H2.get h=some o->H.get h=some o:=fun h o hg=>by
  obtain⟨v,hv⟩:=GH.get_some.1 hg
  exact GH.get_some.2 ⟨v,hs _ _ hv⟩
 refine⟨R.ext,fun h o hg=>R.live h o (g h o hg),fun h h' o o' l l' h1 h2=>R.inj h h' o o' l l' (g _ _ h1) (g _ _ h2),fun h hh=>R.fresh h (by omega),fun h hh=>R.dense h (by omega),fun h v l hv hl=> ?_,R.env⟩
 obtain⟨o,ho⟩:=GH.ver_some.1 hv
 obtain⟨lv,a,b,c⟩:=R.vers h v l (GH.ver_some.2 ⟨o,hs _ _ ho⟩) hl
 refine⟨lv,a,b,?_⟩
 have h1:=GH.get_some.2 ⟨v,ho⟩
 have h2:=g _ _ h1
 rw[c]at h2;cases h2;exact h1
theorem ObjOk.shift {l:Loc} {o:GO} {ρ':Rho} {k:Nat} (hρ:∀h l,ρ2 h=some l->ρ' (k+h)=some (shLoc k l)) (h:ObjOk ρ2 w l o):ObjOk ρ' w (shLoc k l) (shO k o):=by
 cases o with
 |cells cs=>
  obtain⟨cur,T,h1,h2,h3,h4⟩:=h
  refine⟨cur,T,h1,h2,by rw[shL_len];exact h3,fun i g hg=> ?_⟩
  rw[shL_get]at hg
  obtain⟨g0,h0,rfl⟩:=Option.map_eq_some_iff.1 hg
  obtain⟨v,a,b,c⟩:=h4 i g0 h0
  exact⟨v,a,b.shift hρ,c⟩
 |mp es=>
  obtain⟨en,cl,h1,h2,h3⟩:=h
  refine⟨en,cl,h1,by simpa [shO]using h2,fun i g hg=> ?_⟩
  rw[List.getElem?_map]at hg
  obtain⟨g0,h0,rfl⟩:=Option.map_eq_some_iff.1 hg
  obtain⟨m,a,b,c⟩:=h3 i g0 h0
  exact⟨m,a,b.shift hρ,c.shift hρ⟩
theorem Rel.join {gs2:Gls} {hb:GlsOk gs2 w fun _=>False} (R:Rel w0 ρ H w) (R2:Rel (Base.of w hb) ρ2 (mkH n os) w'):
  ∃ρ':Rho,ρ.le ρ'∧Rel w0 ρ' (H.load n os) w'∧∀g v,Rl ρ2 g v->Rl ρ' (shV H.n g) v:=by
 let ρ':Rho:=fun h=>if h<H.n then ρ h else(ρ2 (h - H.n)).map (shLoc H.n)
 have hle:ρ.le ρ':=fun h l hl=>by
  have hlt:h<H.n:=by
   rcases Nat.lt_or_ge h H.n with q|q
   ·exact q
   ·rw[R.fresh h q]at hl;cases hl
  show(if h<H.n then ρ h else _)=_
  rw[if_pos hlt];exact hl
 have hsh:∀h l,ρ2 h=some l->ρ' (H.n+h)=some (shLoc H.n l):=fun h l hl=>by
  show(if H.n+h<H.n then _ else _)=_
  rw[if_neg (by omega),show H.n+h - H.n=h by omega,hl];rfl
 have hlow:∀h,h<H.n->ρ' h=ρ h:=fun h hh=>by show(if h<H.n then ρ h else _)=_;rw[if_pos hh]
 have hhigh:∀h,H.n<=h->ρ' h=(ρ2 (h - H.n)).map (shLoc H.n):=fun h hh=>by show(if h<H.n then ρ h else _)=_;rw[if_neg (by omega)]
 have hnone:∀h,H.n<=h->H.t.get h=none:=fun h hh=>by
  cases hg:H.t.get h with
  |none=>rfl
  |some p=>exact absurd (R.lt (GH.get_some.2 ⟨p.1,hg⟩)) (by omega)
 have gl:∀h,h<H.n->(H.load n os).t.get h=H.t.get h:=fun h hh=>by
  show(putO H.n H.t os).get h=_
  rw[putO_get,if_neg (by omega)]
 have gh:∀h p,H.n<=h->(H.load n os).t.get h=some p->∃p2,(mkH n os).t.get (h - H.n)=some p2∧p=(H.n+p2.1,shO H.n p2.2):=fun h p hh hp=>by
  have hp':(putO H.n H.t os).get h=some p:=hp
  rw[putO_get,if_pos hh,hnone h hh]at hp'
  cases hk:lkO os (h - H.n)with
  |none=>rw[hk]at hp';cases hp'
  |some p2=>rw[hk]at hp';cases hp';exact⟨p2,(rawO_get os _).trans hk,rfl⟩
 have e2:Ext w w':=R2.ext.ext
 have mine2:∀l:Loc,(Base.of w hb).mine l.b->w.heap.size<=l.b:=fun l h=>by
  rcases h with h|h
  ·exact h
  ·exact h.elim
 have liveL:∀h o,h<H.n->(H.load n os).get h=some o->∃l,ρ h=some l∧w0.mine l.b∧ObjOk ρ w l o∧H.get h=some o:=fun h o hh hg=>by
  obtain⟨v,hv⟩:=GH.get_some.1 hg
  rw[gl h hh]at hv
  have hg':=GH.get_some.2 ⟨v,hv⟩
  obtain⟨l,a,b,c⟩:=R.live h o hg'
  exact⟨l,a,b,c,hg'⟩
 have liveH:∀h o,H.n<=h->(H.load n os).get h=some o->∃l o2,ρ2 (h - H.n)=some l∧w.heap.size<=l.b∧ObjOk ρ2 w' l o2∧o=shO H.n o2∧(mkH n os).get (h - H.n)=some o2:=fun h o hh hg=>by
  obtain⟨v,hv⟩:=GH.get_some.1 hg
  obtain⟨p2,h2,e⟩:=gh h _ hh hv
  cases e
  have hg':(mkH n os).get (h - H.n)=some p2.2:=GH.get_some.2 ⟨p2.1,h2⟩
  obtain⟨l,a,b,c⟩:=R2.live _ _ hg'
  exact⟨l,p2.2,a,mine2 l b,c,rfl,hg'⟩
 refine⟨ρ',hle,⟨R.ext.trans e2,fun h o hg=> ?_,fun h h' o o' l l' h1 h2 hl hl' hbb=> ?_,fun h hh=> ?_,fun h hh=> ?_,fun h v l hv hl=> ?_,fun i v e=>let ⟨l,a,b⟩:=R.env i v e;⟨l,hle _ _ a,b⟩⟩,fun g v hg=>hg.shift hsh⟩
 ·rcases Nat.lt_or_ge h H.n with q|q
  ·obtain⟨l,a,b,c,_⟩:=liveL h o q hg
   exact⟨l,by rw[hlow h q];exact a,b,c.move hle (e2.block _ c.lt)⟩
  ·obtain⟨l,o2,a,b,c,rfl,_⟩:=liveH h o q hg
   exact⟨shLoc H.n l,by rw[hhigh h q,a];rfl,.inl (Nat.le_trans R.ext.size b),c.shift hsh⟩
 ·rcases Nat.lt_or_ge h H.n with q|q<;>rcases Nat.lt_or_ge h' H.n with q'|q'
  ·obtain⟨l1,a1,_,_,g1⟩:=liveL h o q h1
   obtain⟨l2,a2,_,_,g2⟩:=liveL h' o' q' h2
   rw[hlow h q,a1]at hl;rw[hlow h' q',a2]at hl'
   cases hl;cases hl'
   exact R.inj h h' o o' _ _ g1 g2 a1 a2 hbb
  ·obtain⟨l1,a1,_,c1,g1⟩:=liveL h o q h1
   obtain⟨l2,o2,a2,b2,_,rfl,g2⟩:=liveH h' o' q' h2
   rw[hlow h q,a1]at hl;rw[hhigh h' q',a2]at hl'
   cases hl;cases hl'
   have:=c1.lt
   simp only[shLoc]at hbb
   omega
  ·obtain⟨l1,o1,a1,b1,_,rfl,g1⟩:=liveH h o q h1
   obtain⟨l2,a2,_,c2,g2⟩:=liveL h' o' q' h2
   rw[hhigh h q,a1]at hl;rw[hlow h' q',a2]at hl'
   cases hl;cases hl'
   have:=c2.lt
   simp only[shLoc]at hbb
   omega
  ·obtain⟨l1,o1,a1,b1,_,rfl,g1⟩:=liveH h o q h1
   obtain⟨l2,o2,a2,b2,_,rfl,g2⟩:=liveH h' o' q' h2
   rw[hhigh h q,a1]at hl;rw[hhigh h' q',a2]at hl'
   cases hl;cases hl'
   have:=R2.inj _ _ _ _ _ _ g1 g2 a1 a2 hbb
   omega
 ·have hh':H.n+n<=h:=hh
  rw[hhigh h (by omega),R2.fresh (h - H.n) (by show n<=_;omega)];rfl
 ·have hh':h<H.n+n:=hh
  rcases Nat.lt_or_ge h H.n with q|q
  ·obtain⟨l,hl⟩:=R.dense h q
   exact⟨l,by rw[hlow h q];exact hl⟩
  ·obtain⟨l,hl⟩:=R2.dense (h - H.n) (by show _<n;omega)
   exact⟨shLoc H.n l,by rw[hhigh h q,hl];rfl⟩
 ·obtain⟨o,ho⟩:=GH.ver_some.1 hv
  rcases Nat.lt_or_ge h H.n with q|q
  ·rw[gl h q]at ho
   rw[hlow h q]at hl
   obtain⟨lv,a,b,c⟩:=R.vers h v l (GH.ver_some.2 ⟨o,ho⟩) hl
   have hg:=GH.get_some.2 ⟨v,ho⟩
   obtain⟨l',hl',_,ck⟩:=R.live h o hg
   rw[hl]at hl';cases hl'
   refine⟨lv,hle _ _ a,by rw[e2.block _ ck.lt];exact b,?_⟩
   obtain⟨v2,hv2⟩:=GH.get_some.1 c
   exact GH.get_some.2 ⟨v2,by rw[gl h q];exact hv2⟩
  ·obtain⟨p2,h2,e⟩:=gh h _ q ho
   cases e
   rw[hhigh h q]at hl
   obtain⟨l2,hl2,rfl⟩:=Option.map_eq_some_iff.1 hl
   obtain⟨lv,a,b,c⟩:=R2.vers (h - H.n) p2.1 l2 (GH.ver_some.2 ⟨p2.2,h2⟩) hl2
   refine⟨shLoc H.n lv,hsh _ _ a,b,?_⟩
   have h3:(mkH n os).get (h - H.n)=some p2.2:=GH.get_some.2 ⟨p2.1,h2⟩
   rw[c]at h3
   have h4:=Option.some.inj h3
   exact GH.get_some.2 ⟨_,by rw[ho,<-h4];rfl⟩
end

theorem eqS_pair {a b:Nat×Nat} (h:eqS a b=true):a=b:=by
 obtain⟨a1,a2⟩:=a
 obtain⟨b1,b2⟩:=b
 unfold eqS at h
 cases h2:Nat.beq a2 b2 with
 |false=>simp[h2]at h
 |true=>
  simp only[h2,cond_true]at h
  rw[Nat.eq_of_beq_eq_true h,Nat.eq_of_beq_eq_true h2]
theorem rl_str {ρ:Rho} {n l:Nat} {x:ByteArray} (e1:n=encB (bytesOfV x)) (e2:l=(bytesOfV x).length):Rl ρ (.str n l) (.string x):=by
 rw[e1,e2];exact .str x
def isS (us:List GV) (p:Nat×Nat):Bool:=List.casesOn (motive:=fun _=>Bool) us false fun u r=>List.casesOn (motive:=fun _=>Bool) r (Option.casesOn (motive:=fun _=>Bool) (GV.asStr u) false fun s=>eqS s p) fun _ _=>false
theorem isS_eq {us:List GV} {p:Nat×Nat} (h:isS us p=true):us=[.str p.1 p.2]:=by
 cases us with
 |nil=>cases h
 | cons u r =>
  cases r with
  |cons _ _=>cases h
  | nil =>
   cases hu:GV.asStr u with
   |none=>simp[isS,hu]at h
   |some s=>
    have:eqS s p=true:=by simpa [isS,hu]using h
    rw[asStr_eq hu,eqS_pair this]
noncomputable section
def pickO (H:GH) (hs:List Nat):Option OL:=List.rec (motive:=fun _=>Option OL) (some []) (fun h _ ih=>ob (H.t.get h) fun p=>ob ih fun r=>some ((h,p.1,p.2)::r)) hs
theorem pickO_mem {H:GH}:∀{hs:List Nat} {os:OL},pickO H hs=some os->∀x∈os,H.t.get x.1=some x.2
 | [],os,h,x,hx=>by cases h;cases hx
 |h0::hs,os,h,x,hx=>by
  obtain⟨p,hp,h⟩:=ob_some.1 (show ob (H.t.get h0) (fun p=>ob (pickO H hs) fun r=>some ((h0,p.1,p.2)::r))=some os from h)
  obtain⟨r,hr,h⟩:=ob_some.1 h
  cases h
  rcases List.mem_cons.1 hx with rfl|hx
  ·exact hp
  ·exact pickO_mem hr x hx
def memoR (T:Tabs) (G:GP) (fuel f:Nat) (us:List GV) (hs:List Nat):Option (GV×Nat×OL):=ob (callR T G fuel f us H0) fun r=>ob (pickO r.2 hs) fun os=>some (r.1,r.2.n,os)
def shK {R:Type} (k:Nat) (v:GV) (f:GV->R):R:=GV.casesOn (motive_1:=fun _=>R) v (fun a b=>f (.int a b)) (fun b=>f (.bool b)) (fun a b=>f (.str a b)) (fun h o=>sn (Nat.add k h) fun h=>f (.ptr h o)) (f .pnil) (fun h o l s=>sn (Nat.add k h) fun h=>f (.sl h o l s)) (f .snil) (fun h=>sn (Nat.add k h) fun h=>f (.map h)) (fun a b c=>f (shV k (.fn a b c))) (f .fnil) (f .inil) (fun cs=>f (shV k (.agg cs))) (fun vs=>f (shV k (.tup vs))) (f .un) (f .bad) (fun h=>sn (Nat.add k h) fun h=>f (.opn h))
theorem shK_eq {R:Type} (k:Nat) (v:GV) (f:GV->R):shK k v f=f (shV k v):=by
 cases v<;>simp[shK,sn_eq,shV]
def shLK {R:Type} (k:Nat) (l:List GV):(List GV->R)->R:=List.rec (motive:=fun _=>(List GV->R)->R) (fun f=>f []) (fun x _ ih f=>shK k x fun y=>ih fun r=>f (y::r)) l
theorem shLK_eq {R:Type} (k:Nat):∀(l:List GV) (f:List GV->R),shLK k l f=f (shL k l)
 | [],f=>rfl
 |x::l,f=>by
  show shK k x (fun y=>shLK k l fun r=>f (y::r))=_
  rw[shK_eq,shLK_eq k l];rfl
def shOK {R:Type} (k:Nat) (o:GO) (f:GO->R):R:=GO.casesOn (motive:=fun _=>R) o (fun cs=>shLK k cs fun cs=>f (.cells cs)) (fun es=>f (shO k (.mp es)))
theorem shOK_eq {R:Type} (k:Nat) (o:GO) (f:GO->R):shOK k o f=f (shO k o):=by
 cases o with
 |cells cs=>exact shLK_eq k cs _
 |mp es=>rfl
def putK {R:Type} (k:Nat) (t:Tr (Nat×GO)) (os:OL):(Tr (Nat×GO)->R)->R:=List.rec (motive:=fun _=>(Tr (Nat×GO)->R)->R) (fun f=>f t) (fun x _ ih f=>ih fun t=>sn (Nat.add k x.2.1) fun v=>sn (Nat.add k x.1) fun h=>shOK k x.2.2 fun o=>t.setK (some (v,o)) h f) os
theorem putK_eq {R:Type} (k:Nat) (t:Tr (Nat×GO)):∀(os:OL) (f:Tr (Nat×GO)->R),putK k t os f=f (putO k t os)
 | [],f=>rfl
 |x::os,f=>by
  show putK k t os (fun t=>sn (Nat.add k x.2.1) fun v=>sn (Nat.add k x.1) fun h=>shOK k x.2.2 fun o=>t.setK (some (v,o)) h f)=_
  rw[putK_eq k t os]
  simp only[sn_eq,shOK_eq,Tr.setK_eq];rfl
def memoK (g:GV) (n:Nat) (os:OL) (H:GH):Option (GV×GH):=sn H.n fun k=>shK k g fun g=>putK k H.t os fun t=>sn (Nat.add k n) fun m=>some (g,⟨m,t⟩)
theorem memoK_eq (g:GV) (n:Nat) (os:OL) (H:GH):memoK g n os H=some (shV H.n g,H.load n os):=by
 unfold memoK
 simp only[sn_eq,shK_eq,putK_eq];rfl
theorem memo_ok {P:Program} {T:Tabs} {G:GP} {gs gs2:Gls} (hobs:gs2.obs=gs.obs) (henv:gs2.env=[]) (hT:TabsOk T G.tab) (hG:∀w0:Base gs2,GOk P G T.fns w0) {fuel f n:Nat} {us:List GV} {vs:List Value} {hs:List Nat} {g:GV} {os:OL} (hm:memoR T G fuel f us hs=some (g,n,os)) (hb:HasBody P f)
  {w0:Base gs} {w:World} {ρ:Rho} {H H':GH} {g':GV} (hv:RlL (fun _=>none) us vs) (h:memoK g n os H=some (g',H')) (R:Rel w0 ρ H w):CallSem P w0 ρ f vs w g' H':=by
 rw[memoK_eq]at h;cases h
 obtain⟨r,hr,hm⟩:=ob_some.1 (show ob (callR T G fuel f us H0) _=some (g,n,os)from hm)
 obtain⟨os',hos,hm⟩:=ob_some.1 hm
 cases hm
 rw[callR_eq hT]at hr
 have hgl:GlsOk gs2 w fun _=>False:=fun p hp=>⟨(R.glo p (hobs▸hp)).1,id⟩
 rcases callF_ok hG (H':=r.2) (g:=r.1) hr (Rel.start (Base.of w hgl) henv) hv with⟨v,w',ρ',hr',_⟩|⟨_,hc⟩
 ·have:=hb vs.toArray w
  rw[show(Base.of w hgl).w=w from rfl,this]at hr';cases hr'
 ·refine .inr ⟨hb _ w,hc.mono ?_⟩
  rintro e w' ⟨v,ρ2,rfl,_,R2,hr2⟩
  have R3:Rel (Base.of w hgl) ρ2 (mkH r.2.n os) w':=R2.sub rfl fun h p hp=>by
   have:lkO os h=some p:=(rawO_get os h).symm.trans hp
   exact pickO_mem hos _ (lkO_mem this)
  obtain⟨ρ',hle,R4,hsh⟩:=R.join R3
  exact⟨v,ρ',rfl,hle,R4,hsh _ _ hr2⟩
theorem memo_base {P:Program} {T:Tabs} {G:GP} {gs:Gls} (hT:TabsOk T G.tab) (hG:∀w0:Base gs,GOk P G T.fns w0) {fuel f n:Nat} {us:List GV} {vs:List Value} {hs:List Nat} {g:GV} {os:OL} (hm:memoR T G fuel f us hs=some (g,n,os)) (hb:HasBody P f)
  (hv:RlL (fun _=>none) us vs) (he:gs.env=[]) (b:Base gs):Calls P f vs.toArray b.w fun e w'=>∃v ρ',e = .returned v∧Rel b ρ' (mkH n os) w'∧Rl ρ' g v:=by
 obtain⟨r,hr,hm⟩:=ob_some.1 (show ob (callR T G fuel f us H0) _=some (g,n,os)from hm)
 obtain⟨os',hos,hm⟩:=ob_some.1 hm
 cases hm
 rw[callR_eq hT]at hr
 rcases callF_ok hG (H':=r.2) (g:=r.1) hr (Rel.start b he) hv with⟨v,w',ρ',hr',_⟩|⟨_,hc⟩
 ·have:=hb vs.toArray b.w
  rw[this]at hr';cases hr'
 ·refine hc.mono ?_
  rintro e w' ⟨v,ρ2,rfl,_,R2,hr2⟩
  exact⟨v,ρ2,rfl,R2.sub rfl fun h p hp=>by
   have:lkO os h=some p:=(rawO_get os h).symm.trans hp
   exact pickO_mem hos _ (lkO_mem this),hr2⟩
end
theorem meets_memo {P:Program} {gs:Nat->Gls} {L:List Fact} (hL:∀w S,(∀h∈L,h.p w S)->∃T,GlsOk (gs T) w fun _=>False) {f n:Nat} {vs:List Value} {g:GV} {os:OL}
  (h:∀T (b:Base (gs T)),Calls P f vs.toArray b.w fun e w'=>∃v ρ',e = .returned v∧Rel b ρ' (mkH n os) w'∧Rl ρ' g v) {A:Type} {ret:A->Value} {LO:A->List Fact}
  (hdec:∀T (b:Base (gs T)) (ρ:Rho) (w:World) (V:Value),(∀k,b.mine k->b.w.heap.size<=k)->Rel b ρ (mkH n os) w->Rl ρ g V->∃x:A,V=ret x∧∀q∈LO x,q.p w (fun k=>b.w.heap.size<=k)):
  Meets P f vs.toArray L ret (fun _ l=>l) (fun x l=>LO x++l):=by
 intro w0 S0 hw
 obtain⟨T,hT⟩:=hL w0 S0 hw
 refine(h T (.of w0 hT)).mono ?_
 rintro e w' ⟨v,ρ',rfl,R,hr⟩
 obtain⟨x,rfl,hq⟩:=hdec T (.of w0 hT) ρ' w' v (fun k hk=>hk.elim id False.elim) R hr
 refine⟨x,rfl,R.ext,fun _ _=>False,⟨fun i m hm=>by simp at hm,fun i k h=>h.elim,fun i j k h=>h.elim⟩,fun q hq'=> ?_⟩
 have hq':q∈LO x++[]:=hq'
 rw[List.append_nil]at hq'
 exact Fact.wide (hq q hq') (fun k hk=>⟨.inr (.inl hk),fun i h=>h.elim⟩)

noncomputable def encS (s:ByteArray):Nat×Nat:=(encB (bytesOfV s),(bytesOfV s).length)
theorem encS_inj {a b:ByteArray} (h:encS a=encS b):a=b:=by
 have h1:=eqS_eq a b
 unfold encS at h
 rw[h]at h1
 have h2:eqS (encB (bytesOfV b),(bytesOfV b).length) (encB (bytesOfV b),(bytesOfV b).length)=true:=by simp[eqS]
 rw[h2]at h1
 have h3:a.toList=b.toList:=eq_of_beq h1.symm
 rw[Lib.toList_data,Lib.toList_data]at h3
 obtain⟨⟨x⟩⟩:=a
 obtain⟨⟨y⟩⟩:=b
 simp only at h3
 rw[h3]
noncomputable def dStr (cs:List GV):Option (Nat×Nat):=List.casesOn (motive:=fun _=>Option (Nat×Nat)) cs none fun c r=>List.casesOn (motive:=fun _=>Option (Nat×Nat)) r c.asStr fun _ _=>none
abbrev repStr:Rep ByteArray:=⟨1,Nat.one_pos,fun _ _ cs x=>cs=[.string x],fun h=>by simp[h],fun h _=>h⟩
theorem Reads.str {S:Nat->Prop} {ρ:Rho} {w:World}:Reads S ρ w dStr repStr encS:=fun gs vs y hr h _=>by
 cases gs with
 |nil=>cases h
 |cons c gs=>
 cases gs with
 |cons _ _=>cases h
 |nil=>
 have h:c.asStr=some y:=h
 obtain⟨v,vs,rfl,hv,hr⟩:=hr.of_cons
 rw[hr.of_nil]
 rw[asStr_eq h]at hv
 obtain⟨x,rfl,e1,e2⟩:=hv.str_inv
 exact⟨x,by unfold encS;rw[<-e1,<-e2],rfl⟩
theorem str_lit {ρ:Rho} {V:Value} {n l:Nat} {s:ByteArray} (h:Rl ρ (.str n l) V) (e:encS s=(n,l)):V = .string s:=by
 obtain⟨x,rfl,e1,e2⟩:=h.str_inv
 have:encS x=encS s:=by rw[e];unfold encS;rw[<-e1,<-e2]
 rw[encS_inj this]
theorem inj_id {α:Type}:∀a b:α,id a=id b->a=b:=fun _ _ h=>h
theorem inj_pair {α β α' β':Type} {f:α->α'} {g:β->β'} (hf:∀a b,f a=f b->a=b) (hg:∀a b,g a=g b->a=b):∀a b:α×β,(fun z:α×β=>(f z.1,g z.2)) a=(fun z:α×β=>(f z.1,g z.2)) b->a=b:=fun a b h=>by
 obtain⟨a1,a2⟩:=a
 obtain⟨b1,b2⟩:=b
 simp only[Prod.mk.injEq]at h
 rw[hf _ _ h.1,hg _ _ h.2]
theorem map_inj_of {α β:Type} {f:α->β} (hf:∀a b,f a=f b->a=b):∀{xs ys:List α},xs.map f=ys.map f->xs=ys
 | [],[],_=>rfl
 | [],_::_,h=>by simp at h
 |_::_,[],h=>by simp at h
 |a::xs,b::ys,h=>by
  simp only[List.map_cons,List.cons.injEq]at h
  rw[hf _ _ h.1,map_inj_of hf h.2]
theorem one_of_sl {ρ:Rho} {V:Value} {h o n s:Nat} (hr:Rl ρ (.sl h o n s) V):one V=true:=by
 obtain⟨l,cap,A,_,rfl,_⟩:=hr.sl_inv;rfl
end Go.Gx
end
section
set_option maxRecDepth 100000
namespace Go.Gx
open Go Go.Sx Go.Proofs Go.Proofs.YtdbcpliafeoghaaGreatDoor
def mu0:List GV:=[.str 71249362481079977452884316497893485862003781378380186443723211848324143362108177885825419081494821760013661206001097331844441314216469646330948494578433579262219834318486201028918376115292234488190700106942185120577518256511015159373632050200221875266428893346870089151936961848021402711157309556811570579452411680726714441114401627388096496024253845716638330773660915918662884872349758420128557367125203571583786029032399741638474503939646749525176616068912753182428383816770282999284942596549464335299041578590498704846876479973995637544997300808465629673589532931271276867856109758593603349879408733903821463777771303521998656430507938449710980075854559363989016083892713040828720973422783465502057059703922495107079261490020884616910566195303447459199789638099550237825859650229398681345092860498350921460315705906616442288394582691200440280135629162006963382844585911948056220785599387271665395519496413351471157088698250728565328718568235708145832114557345173602352771027404378663854631932098478169816132556163210119982019532849716161103768839540877472227068661770096791273707001174665743715154553128055607401500841088534854391588672059193795601211258321011231050774593156430084765392881009496824427195855467792851940283086600280108372309832209821085536023972216446949998813815478863454932518093775342849783278727011324956570494402720150194198228748565212249332223202955995657936385103356277284401707377096495385107540722377361240699143073602638306000298122043359982192 613]
def mg0:GV:=(.tup [(.sl 2345 0 275 4),(.int .i64 (.ofNat 0)),(.int .i64 (.ofNat 0))])
def mo0:OL:=[(2345,2345,.cells [(.int .i64 (.ofNat 1)),(.int .i64 (.ofNat 0)),(.int .i64 (.ofNat 7)),(.int .i64 (.ofNat 0)),(.int .i64 (.ofNat 1)),(.int .i64 (.ofNat 8)),(.int .i64 (.ofNat 16)),(.int .i64 (.ofNat 0)),(.int .i64 (.ofNat 3)),(.int .i64 (.ofNat 16)),(.int .i64 (.ofNat 17)),(.int .i64 (.ofNat 0)),(.int .i64 (.ofNat 1)),(.int .i64 (.ofNat 18)),(.int .i64 (.ofNat 21)),(.int .i64 (.ofNat 0)),(.int .i64 (.ofNat 1)),(.int .i64 (.ofNat 22)),(.int .i64 (.ofNat 23)),(.int .i64 (.ofNat 0)),(.int .i64 (.ofNat 3)),(.int .i64 (.ofNat 24)),(.int .i64 (.ofNat 25)),(.int .i64 (.ofNat 0)),(.int .i64 (.ofNat 2)),(.int .i64 (.ofNat 26)),(.int .i64 (.ofNat 27)),(.int .i64 (.ofNat 0)),(.int .i64 (.ofNat 3)),(.int .i64 (.ofNat 28)),(.int .i64 (.ofNat 30)),(.int .i64 (.ofNat 0)),(.int .i64 (.ofNat 1)),(.int .i64 (.ofNat 31)),(.int .i64 (.ofNat 32)),(.int .i64 (.ofNat 0)),(.int .i64 (.ofNat 3)),(.int .i64 (.ofNat 32)),(.int .i64 (.ofNat 33)),(.int .i64 (.ofNat 0)),(.int .i64 (.ofNat 1)),(.int .i64 (.ofNat 34)),(.int .i64 (.ofNat 37)),(.int .i64 (.ofNat 0)),(.int .i64 (.ofNat 1)),(.int .i64 (.ofNat 38)),(.int .i64 (.ofNat 39)),(.int .i64 (.ofNat 0)),(.int .i64 (.ofNat 3)),(.int .i64 (.ofNat 40)),(.int .i64 (.ofNat 41)),(.int .i64 (.ofNat 0)),(.int .i64 (.ofNat 1)),(.int .i64 (.ofNat 42)),(.int .i64 (.ofNat 46)),(.int .i64 (.ofNat 0)),(.int .i64 (.ofNat 3)),(.int .i64 (.ofNat 46)),(.int .i64 (.ofNat 47)),(.int .i64 (.ofNat 0)),(.int .i64 (.ofNat 1)),(.int .i64 (.ofNat 48)),(.int .i64 (.ofNat 51)),(.int .i64 (.ofNat 0)),(.int .i64 (.ofNat 1)),(.int .i64 (.ofNat 52)),(.int .i64 (.ofNat 53)),(.int .i64 (.ofNat 0)),(.int .i64 (.ofNat 3)),(.int .i64 (.ofNat 54)),(.int .i64 (.ofNat 55)),(.int .i64 (.ofNat 0)),(.int .i64 (.ofNat 1)),(.int .i64 (.ofNat 56)),(.int .i64 (.ofNat 60)),(.int .i64 (.ofNat 0)),(.int .i64 (.ofNat 3)),(.int .i64 (.ofNat 60)),(.int .i64 (.ofNat 61)),(.int .i64 (.ofNat 0)),(.int .i64 (.ofNat 1)),(.int .i64 (.ofNat 62)),(.int .i64 (.ofNat 65)),(.int .i64 (.ofNat 0)),(.int .i64 (.ofNat 1)),(.int .i64 (.ofNat 66)),(.int .i64 (.ofNat 67)),(.int .i64 (.ofNat 0)),(.int .i64 (.ofNat 3)),(.int .i64 (.ofNat 68)),(.int .i64 (.ofNat 69)),(.int .i64 (.ofNat 0)),(.int .i64 (.ofNat 1)),(.int .i64 (.ofNat 70)),(.int .i64 (.ofNat 74)),(.int .i64 (.ofNat 0)),(.int .i64 (.ofNat 3)),(.int .i64 (.ofNat 74)),(.int .i64 (.ofNat 75)),(.int .i64 (.ofNat 0)),(.int .i64 (.ofNat 1)),(.int .i64 (.ofNat 76)),(.int .i64 (.ofNat 79)),(.int .i64 (.ofNat 0)),(.int .i64 (.ofNat 1)),(.int .i64 (.ofNat 80)),(.int .i64 (.ofNat 81)),(.int .i64 (.ofNat 0)),(.int .i64 (.ofNat 3)),(.int .i64 (.ofNat 82)),(.int .i64 (.ofNat 83)),(.int .i64 (.ofNat 0)),(.int .i64 (.ofNat 2)),(.int .i64 (.ofNat 84)),(.int .i64 (.ofNat 85)),(.int .i64 (.ofNat 0)),(.int .i64 (.ofNat 3)),(.int .i64 (.ofNat 86)),(.int .i64 (.ofNat 88)),(.int .i64 (.ofNat 0)),(.int .i64 (.ofNat 2)),(.int .i64 (.ofNat 89)),(.int .i64 (.ofNat 91)),(.int .i64 (.ofNat 15)),(.int .i64 (.ofNat 3)),(.int .i64 (.ofNat 91)),(.int .i64 (.ofNat 92)),(.int .i64 (.ofNat 0)),(.int .i64 (.ofNat 1)),(.int .i64 (.ofNat 93)),(.int .i64 (.ofNat 96)),(.int .i64 (.ofNat 0)),(.int .i64 (.ofNat 1)),(.int .i64 (.ofNat 97)),(.int .i64 (.ofNat 98)),(.int .i64 (.ofNat 0)),(.int .i64 (.ofNat 3)),(.int .i64 (.ofNat 99)),(.int .i64 (.ofNat 100)),(.int .i64 (.ofNat 0)),(.int .i64 (.ofNat 2)),(.int .i64 (.ofNat 101)),(.int .i64 (.ofNat 102)),(.int .i64 (.ofNat 0)),(.int .i64 (.ofNat 3)),(.int .i64 (.ofNat 103)),(.int .i64 (.ofNat 105)),(.int .i64 (.ofNat 0)),(.int .i64 (.ofNat 2)),(.int .i64 (.ofNat 106)),(.int .i64 (.ofNat 108)),(.int .i64 (.ofNat 15)),(.int .i64 (.ofNat 3)),(.int .i64 (.ofNat 109)),(.int .i64 (.ofNat 110)),(.int .i64 (.ofNat 0)),(.int .i64 (.ofNat 1)),(.int .i64 (.ofNat 111)),(.int .i64 (.ofNat 112)),(.int .i64 (.ofNat 0)),(.int .i64 (.ofNat 3)),(.int .i64 (.ofNat 112)),(.int .i64 (.ofNat 113)),(.int .i64 (.ofNat 0)),(.int .i64 (.ofNat 1)),(.int .i64 (.ofNat 114)),(.int .i64 (.ofNat 118)),(.int .i64 (.ofNat 0)),(.int .i64 (.ofNat 1)),(.int .i64 (.ofNat 119)),(.int .i64 (.ofNat 122)),(.int .i64 (.ofNat 0)),(.int .i64 (.ofNat 3)),(.int .i64 (.ofNat 122)),(.int .i64 (.ofNat 123)),(.int .i64 (.ofNat 0)),(.int .i64 (.ofNat 1)),(.int .i64 (.ofNat 124)),(.int .i64 (.ofNat 128)),(.int .i64 (.ofNat 0)),(.int .i64 (.ofNat 3)),(.int .i64 (.ofNat 129)),(.int .i64 (.ofNat 131)),(.int .i64 (.ofNat 0)),(.int .i64 (.ofNat 3)),(.int .i64 (.ofNat 132)),(.int .i64 (.ofNat 133)),(.int .i64 (.ofNat 0)),(.int .i64 (.ofNat 1)),(.int .i64 (.ofNat 133)),(.int .i64 (.ofNat 134)),(.int .i64 (.ofNat 0)),(.int .i64 (.ofNat 3)),(.int .i64 (.ofNat 135)),(.int .i64 (.ofNat 137)),(.int .i64 (.ofNat 0)),(.int .i64 (.ofNat 2)),(.int .i64 (.ofNat 138)),(.int .i64 (.ofNat 139)),(.int .i64 (.ofNat 0)),(.int .i64 (.ofNat 3)),(.int .i64 (.ofNat 140)),(.int .i64 (.ofNat 142)),(.int .i64 (.ofNat 0)),(.int .i64 (.ofNat 1)),(.int .i64 (.ofNat 143)),(.int .i64 (.ofNat 144)),(.int .i64 (.ofNat 0)),(.int .i64 (.ofNat 3)),(.int .i64 (.ofNat 145)),(.int .i64 (.ofNat 147)),(.int .i64 (.ofNat 0)),(.int .i64 (.ofNat 1)),(.int .i64 (.ofNat 148)),(.int .i64 (.ofNat 152)),(.int .i64 (.ofNat 0)),(.int .i64 (.ofNat 3)),(.int .i64 (.ofNat 152)),(.int .i64 (.ofNat 153)),(.int .i64 (.ofNat 0)),(.int .i64 (.ofNat 3)),(.int .i64 (.ofNat 154)),(.int .i64 (.ofNat 156)),(.int .i64 (.ofNat 0)),(.int .i64 (.ofNat 1)),(.int .i64 (.ofNat 157)),(.int .i64 (.ofNat 158)),(.int .i64 (.ofNat 0)),(.int .i64 (.ofNat 3)),(.int .i64 (.ofNat 159)),(.int .i64 (.ofNat 161)),(.int .i64 (.ofNat 0)),(.int .i64 (.ofNat 2)),(.int .i64 (.ofNat 162)),(.int .i64 (.ofNat 163)),(.int .i64 (.ofNat 0)),(.int .i64 (.ofNat 3)),(.int .i64 (.ofNat 163)),(.int .i64 (.ofNat 164)),(.int .i64 (.ofNat 0)),(.int .i64 (.ofNat 1)),(.int .i64 (.ofNat 165)),(.int .i64 (.ofNat 166)),(.int .i64 (.ofNat 0)),(.int .i64 (.ofNat 3)),(.int .i64 (.ofNat 167)),(.int .i64 (.ofNat 169)),(.int .i64 (.ofNat 0)),(.int .i64 (.ofNat 1)),(.int .i64 (.ofNat 170)),(.int .i64 (.ofNat 174)),(.int .i64 (.ofNat 0)),(.int .i64 (.ofNat 3)),(.int .i64 (.ofNat 174)),(.int .i64 (.ofNat 175)),(.int .i64 (.ofNat 0)),(.int .i64 (.ofNat 1)),(.int .i64 (.ofNat 176)),(.int .i64 (.ofNat 180)),(.int .i64 (.ofNat 0)),(.int .i64 (.ofNat 1)),(.int .i64 (.ofNat 181)),(.int .i64 (.ofNat 184)),(.int .i64 (.ofNat 0)),(.int .i64 (.ofNat 3)),(.int .i64 (.ofNat 184)),(.int .i64 (.ofNat 185)),(.int .i64 (.ofNat 0)),(.int .i64 (.ofNat 3)),(.int .i64 (.ofNat 186)),(.int .i64 (.ofNat 187)),(.int .i64 (.ofNat 0)),(.int .i64 (.ofNat 1)),(.int .i64 (.ofNat 187)),(.int .i64 (.ofNat 191)),(.int .i64 (.ofNat 0)),(.int .i64 (.ofNat 3)),(.int .i64 (.ofNat 192)),(.int .i64 (.ofNat 194)),(.int .i64 (.ofNat 0)),(.int .i64 (.ofNat 3)),(.int .i64 (.ofNat 195)),(.int .i64 (.ofNat 196)),(.int .i64 (.ofNat 0)),(.int .i64 (.ofNat 1)),(.int .i64 (.ofNat 196)),(.int .i64 (.ofNat 197)),(.int .i64 (.ofNat 0)),(.int .i64 (.ofNat 3)),(.int .i64 (.ofNat 198)),(.int .i64 (.ofNat 200)),(.int .i64 (.ofNat 0)),(.int .i64 (.ofNat 3)),(.int .i64 (.ofNat 201)),(.int .i64 (.ofNat 202)),(.int .i64 (.ofNat 0)),(.int .i64 (.ofNat 1)),(.int .i64 (.ofNat 202)),(.int .i64 (.ofNat 205)),(.int .i64 (.ofNat 0)),(.int .i64 (.ofNat 3)),(.int .i64 (.ofNat 205)),(.int .i64 (.ofNat 206)),(.int .i64 (.ofNat 0)),(.int .i64 (.ofNat 1)),(.int .i64 (.ofNat 206)),(.int .i64 (.ofNat 207)),(.int .i64 (.ofNat 0)),(.int .i64 (.ofNat 3)),(.int .i64 (.ofNat 207)),(.int .i64 (.ofNat 208)),(.int .i64 (.ofNat 0)),(.int .i64 (.ofNat 1)),(.int .i64 (.ofNat 208)),(.int .i64 (.ofNat 209)),(.int .i64 (.ofNat 0)),(.int .i64 (.ofNat 3)),(.int .i64 (.ofNat 209)),(.int .i64 (.ofNat 210)),(.int .i64 (.ofNat 0)),(.int .i64 (.ofNat 3)),(.int .i64 (.ofNat 211)),(.int .i64 (.ofNat 212)),(.int .i64 (.ofNat 0)),(.int .i64 (.ofNat 1)),(.int .i64 (.ofNat 213)),(.int .i64 (.ofNat 214)),(.int .i64 (.ofNat 0)),(.int .i64 (.ofNat 3)),(.int .i64 (.ofNat 215)),(.int .i64 (.ofNat 216)),(.int .i64 (.ofNat 0)),(.int .i64 (.ofNat 1)),(.int .i64 (.ofNat 217)),(.int .i64 (.ofNat 220)),(.int .i64 (.ofNat 0)),(.int .i64 (.ofNat 3)),(.int .i64 (.ofNat 220)),(.int .i64 (.ofNat 221)),(.int .i64 (.ofNat 0)),(.int .i64 (.ofNat 1)),(.int .i64 (.ofNat 221)),(.int .i64 (.ofNat 222)),(.int .i64 (.ofNat 0)),(.int .i64 (.ofNat 3)),(.int .i64 (.ofNat 222)),(.int .i64 (.ofNat 223)),(.int .i64 (.ofNat 0)),(.int .i64 (.ofNat 1)),(.int .i64 (.ofNat 223)),(.int .i64 (.ofNat 224)),(.int .i64 (.ofNat 0)),(.int .i64 (.ofNat 3)),(.int .i64 (.ofNat 224)),(.int .i64 (.ofNat 225)),(.int .i64 (.ofNat 0)),(.int .i64 (.ofNat 3)),(.int .i64 (.ofNat 226)),(.int .i64 (.ofNat 227)),(.int .i64 (.ofNat 0)),(.int .i64 (.ofNat 2)),(.int .i64 (.ofNat 228)),(.int .i64 (.ofNat 229)),(.int .i64 (.ofNat 1)),(.int .i64 (.ofNat 3)),(.int .i64 (.ofNat 230)),(.int .i64 (.ofNat 231)),(.int .i64 (.ofNat 0)),(.int .i64 (.ofNat 1)),(.int .i64 (.ofNat 232)),(.int .i64 (.ofNat 233)),(.int .i64 (.ofNat 0)),(.int .i64 (.ofNat 3)),(.int .i64 (.ofNat 233)),(.int .i64 (.ofNat 234)),(.int .i64 (.ofNat 0)),(.int .i64 (.ofNat 3)),(.int .i64 (.ofNat 235)),(.int .i64 (.ofNat 237)),(.int .i64 (.ofNat 0)),(.int .i64 (.ofNat 1)),(.int .i64 (.ofNat 238)),(.int .i64 (.ofNat 239)),(.int .i64 (.ofNat 0)),(.int .i64 (.ofNat 3)),(.int .i64 (.ofNat 240)),(.int .i64 (.ofNat 242)),(.int .i64 (.ofNat 0)),(.int .i64 (.ofNat 1)),(.int .i64 (.ofNat 243)),(.int .i64 (.ofNat 248)),(.int .i64 (.ofNat 0)),(.int .i64 (.ofNat 3)),(.int .i64 (.ofNat 248)),(.int .i64 (.ofNat 249)),(.int .i64 (.ofNat 0)),(.int .i64 (.ofNat 1)),(.int .i64 (.ofNat 249)),(.int .i64 (.ofNat 250)),(.int .i64 (.ofNat 0)),(.int .i64 (.ofNat 3)),(.int .i64 (.ofNat 250)),(.int .i64 (.ofNat 251)),(.int .i64 (.ofNat 0)),(.int .i64 (.ofNat 1)),(.int .i64 (.ofNat 251)),(.int .i64 (.ofNat 252)),(.int .i64 (.ofNat 0)),(.int .i64 (.ofNat 3)),(.int .i64 (.ofNat 253)),(.int .i64 (.ofNat 255)),(.int .i64 (.ofNat 0)),(.int .i64 (.ofNat 1)),(.int .i64 (.ofNat 256)),(.int .i64 (.ofNat 259)),(.int .i64 (.ofNat 0)),(.int .i64 (.ofNat 3)),(.int .i64 (.ofNat 259)),(.int .i64 (.ofNat 260)),(.int .i64 (.ofNat 0)),(.int .i64 (.ofNat 1)),(.int .i64 (.ofNat 260)),(.int .i64 (.ofNat 261)),(.int .i64 (.ofNat 0)),(.int .i64 (.ofNat 3)),(.int .i64 (.ofNat 261)),(.int .i64 (.ofNat 262)),(.int .i64 (.ofNat 0)),(.int .i64 (.ofNat 1)),(.int .i64 (.ofNat 262)),(.int .i64 (.ofNat 263)),(.int .i64 (.ofNat 0)),(.int .i64 (.ofNat 3)),(.int .i64 (.ofNat 263)),(.int .i64 (.ofNat 264)),(.int .i64 (.ofNat 0)),(.int .i64 (.ofNat 3)),(.int .i64 (.ofNat 264)),(.int .i64 (.ofNat 265)),(.int .i64 (.ofNat 0)),(.int .i64 (.ofNat 3)),(.int .i64 (.ofNat 265)),(.int .i64 (.ofNat 266)),(.int .i64 (.ofNat 0)),(.int .i64 (.ofNat 3)),(.int .i64 (.ofNat 269)),(.int .i64 (.ofNat 271)),(.int .i64 (.ofNat 0)),(.int .i64 (.ofNat 1)),(.int .i64 (.ofNat 272)),(.int .i64 (.ofNat 273)),(.int .i64 (.ofNat 0)),(.int .i64 (.ofNat 3)),(.int .i64 (.ofNat 274)),(.int .i64 (.ofNat 276)),(.int .i64 (.ofNat 0)),(.int .i64 (.ofNat 3)),(.int .i64 (.ofNat 277)),(.int .i64 (.ofNat 278)),(.int .i64 (.ofNat 0)),(.int .i64 (.ofNat 1)),(.int .i64 (.ofNat 278)),(.int .i64 (.ofNat 281)),(.int .i64 (.ofNat 0)),(.int .i64 (.ofNat 3)),(.int .i64 (.ofNat 281)),(.int .i64 (.ofNat 282)),(.int .i64 (.ofNat 0)),(.int .i64 (.ofNat 1)),(.int .i64 (.ofNat 282)),(.int .i64 (.ofNat 283)),(.int .i64 (.ofNat 0)),(.int .i64 (.ofNat 3)),(.int .i64 (.ofNat 283)),(.int .i64 (.ofNat 284)),(.int .i64 (.ofNat 0)),(.int .i64 (.ofNat 1)),(.int .i64 (.ofNat 284)),(.int .i64 (.ofNat 285)),(.int .i64 (.ofNat 0)),(.int .i64 (.ofNat 3)),(.int .i64 (.ofNat 285)),(.int .i64 (.ofNat 286)),(.int .i64 (.ofNat 0)),(.int .i64 (.ofNat 3)),(.int .i64 (.ofNat 287)),(.int .i64 (.ofNat 288)),(.int .i64 (.ofNat 0)),(.int .i64 (.ofNat 1)),(.int .i64 (.ofNat 289)),(.int .i64 (.ofNat 290)),(.int .i64 (.ofNat 0)),(.int .i64 (.ofNat 3)),(.int .i64 (.ofNat 291)),(.int .i64 (.ofNat 292)),(.int .i64 (.ofNat 0)),(.int .i64 (.ofNat 1)),(.int .i64 (.ofNat 293)),(.int .i64 (.ofNat 296)),(.int .i64 (.ofNat 0)),(.int .i64 (.ofNat 3)),(.int .i64 (.ofNat 296)),(.int .i64 (.ofNat 297)),(.int .i64 (.ofNat 0)),(.int .i64 (.ofNat 1)),(.int .i64 (.ofNat 297)),(.int .i64 (.ofNat 298)),(.int .i64 (.ofNat 0)),(.int .i64 (.ofNat 3)),(.int .i64 (.ofNat 298)),(.int .i64 (.ofNat 299)),(.int .i64 (.ofNat 0)),(.int .i64 (.ofNat 1)),(.int .i64 (.ofNat 299)),(.int .i64 (.ofNat 300)),(.int .i64 (.ofNat 0)),(.int .i64 (.ofNat 3)),(.int .i64 (.ofNat 300)),(.int .i64 (.ofNat 301)),(.int .i64 (.ofNat 0)),(.int .i64 (.ofNat 3)),(.int .i64 (.ofNat 302)),(.int .i64 (.ofNat 303)),(.int .i64 (.ofNat 0)),(.int .i64 (.ofNat 2)),(.int .i64 (.ofNat 304)),(.int .i64 (.ofNat 305)),(.int .i64 (.ofNat 1)),(.int .i64 (.ofNat 3)),(.int .i64 (.ofNat 306)),(.int .i64 (.ofNat 307)),(.int .i64 (.ofNat 0)),(.int .i64 (.ofNat 1)),(.int .i64 (.ofNat 308)),(.int .i64 (.ofNat 309)),(.int .i64 (.ofNat 0)),(.int .i64 (.ofNat 3)),(.int .i64 (.ofNat 309)),(.int .i64 (.ofNat 310)),(.int .i64 (.ofNat 0)),(.int .i64 (.ofNat 3)),(.int .i64 (.ofNat 310)),(.int .i64 (.ofNat 311)),(.int .i64 (.ofNat 0)),(.int .i64 (.ofNat 1)),(.int .i64 (.ofNat 312)),(.int .i64 (.ofNat 313)),(.int .i64 (.ofNat 0)),(.int .i64 (.ofNat 3)),(.int .i64 (.ofNat 314)),(.int .i64 (.ofNat 316)),(.int .i64 (.ofNat 0)),(.int .i64 (.ofNat 1)),(.int .i64 (.ofNat 317)),(.int .i64 (.ofNat 322)),(.int .i64 (.ofNat 0)),(.int .i64 (.ofNat 3)),(.int .i64 (.ofNat 322)),(.int .i64 (.ofNat 323)),(.int .i64 (.ofNat 0)),(.int .i64 (.ofNat 1)),(.int .i64 (.ofNat 323)),(.int .i64 (.ofNat 324)),(.int .i64 (.ofNat 0)),(.int .i64 (.ofNat 3)),(.int .i64 (.ofNat 324)),(.int .i64 (.ofNat 325)),(.int .i64 (.ofNat 0)),(.int .i64 (.ofNat 1)),(.int .i64 (.ofNat 325)),(.int .i64 (.ofNat 326)),(.int .i64 (.ofNat 0)),(.int .i64 (.ofNat 3)),(.int .i64 (.ofNat 327)),(.int .i64 (.ofNat 329)),(.int .i64 (.ofNat 0)),(.int .i64 (.ofNat 1)),(.int .i64 (.ofNat 330)),(.int .i64 (.ofNat 333)),(.int .i64 (.ofNat 0)),(.int .i64 (.ofNat 3)),(.int .i64 (.ofNat 333)),(.int .i64 (.ofNat 334)),(.int .i64 (.ofNat 0)),(.int .i64 (.ofNat 1)),(.int .i64 (.ofNat 334)),(.int .i64 (.ofNat 335)),(.int .i64 (.ofNat 0)),(.int .i64 (.ofNat 3)),(.int .i64 (.ofNat 335)),(.int .i64 (.ofNat 336)),(.int .i64 (.ofNat 0)),(.int .i64 (.ofNat 1)),(.int .i64 (.ofNat 336)),(.int .i64 (.ofNat 337)),(.int .i64 (.ofNat 0)),(.int .i64 (.ofNat 3)),(.int .i64 (.ofNat 337)),(.int .i64 (.ofNat 338)),(.int .i64 (.ofNat 0)),(.int .i64 (.ofNat 3)),(.int .i64 (.ofNat 338)),(.int .i64 (.ofNat 339)),(.int .i64 (.ofNat 0)),(.int .i64 (.ofNat 3)),(.int .i64 (.ofNat 339)),(.int .i64 (.ofNat 340)),(.int .i64 (.ofNat 0)),(.int .i64 (.ofNat 1)),(.int .i64 (.ofNat 341)),(.int .i64 (.ofNat 345)),(.int .i64 (.ofNat 0)),(.int .i64 (.ofNat 1)),(.int .i64 (.ofNat 346)),(.int .i64 (.ofNat 351)),(.int .i64 (.ofNat 0)),(.int .i64 (.ofNat 3)),(.int .i64 (.ofNat 351)),(.int .i64 (.ofNat 352)),(.int .i64 (.ofNat 0)),(.int .i64 (.ofNat 1)),(.int .i64 (.ofNat 353)),(.int .i64 (.ofNat 357)),(.int .i64 (.ofNat 0)),(.int .i64 (.ofNat 3)),(.int .i64 (.ofNat 358)),(.int .i64 (.ofNat 360)),(.int .i64 (.ofNat 0)),(.int .i64 (.ofNat 3)),(.int .i64 (.ofNat 361)),(.int .i64 (.ofNat 362)),(.int .i64 (.ofNat 0)),(.int .i64 (.ofNat 1)),(.int .i64 (.ofNat 362)),(.int .i64 (.ofNat 363)),(.int .i64 (.ofNat 0)),(.int .i64 (.ofNat 3)),(.int .i64 (.ofNat 364)),(.int .i64 (.ofNat 366)),(.int .i64 (.ofNat 0)),(.int .i64 (.ofNat 1)),(.int .i64 (.ofNat 367)),(.int .i64 (.ofNat 368)),(.int .i64 (.ofNat 0)),(.int .i64 (.ofNat 3)),(.int .i64 (.ofNat 369)),(.int .i64 (.ofNat 371)),(.int .i64 (.ofNat 0)),(.int .i64 (.ofNat 1)),(.int .i64 (.ofNat 372)),(.int .i64 (.ofNat 376)),(.int .i64 (.ofNat 0)),(.int .i64 (.ofNat 3)),(.int .i64 (.ofNat 376)),(.int .i64 (.ofNat 377)),(.int .i64 (.ofNat 0)),(.int .i64 (.ofNat 1)),(.int .i64 (.ofNat 378)),(.int .i64 (.ofNat 379)),(.int .i64 (.ofNat 0)),(.int .i64 (.ofNat 3)),(.int .i64 (.ofNat 380)),(.int .i64 (.ofNat 382)),(.int .i64 (.ofNat 0)),(.int .i64 (.ofNat 3)),(.int .i64 (.ofNat 383)),(.int .i64 (.ofNat 384)),(.int .i64 (.ofNat 0)),(.int .i64 (.ofNat 1)),(.int .i64 (.ofNat 384)),(.int .i64 (.ofNat 385)),(.int .i64 (.ofNat 0)),(.int .i64 (.ofNat 3)),(.int .i64 (.ofNat 385)),(.int .i64 (.ofNat 386)),(.int .i64 (.ofNat 0)),(.int .i64 (.ofNat 1)),(.int .i64 (.ofNat 387)),(.int .i64 (.ofNat 391)),(.int .i64 (.ofNat 0)),(.int .i64 (.ofNat 1)),(.int .i64 (.ofNat 392)),(.int .i64 (.ofNat 396)),(.int .i64 (.ofNat 0)),(.int .i64 (.ofNat 3)),(.int .i64 (.ofNat 396)),(.int .i64 (.ofNat 397)),(.int .i64 (.ofNat 0)),(.int .i64 (.ofNat 3)),(.int .i64 (.ofNat 398)),(.int .i64 (.ofNat 399)),(.int .i64 (.ofNat 0)),(.int .i64 (.ofNat 1)),(.int .i64 (.ofNat 399)),(.int .i64 (.ofNat 403)),(.int .i64 (.ofNat 0)),(.int .i64 (.ofNat 3)),(.int .i64 (.ofNat 404)),(.int .i64 (.ofNat 406)),(.int .i64 (.ofNat 0)),(.int .i64 (.ofNat 1)),(.int .i64 (.ofNat 407)),(.int .i64 (.ofNat 411)),(.int .i64 (.ofNat 0)),(.int .i64 (.ofNat 3)),(.int .i64 (.ofNat 411)),(.int .i64 (.ofNat 412)),(.int .i64 (.ofNat 0)),(.int .i64 (.ofNat 1)),(.int .i64 (.ofNat 412)),(.int .i64 (.ofNat 413)),(.int .i64 (.ofNat 0)),(.int .i64 (.ofNat 3)),(.int .i64 (.ofNat 414)),(.int .i64 (.ofNat 416)),(.int .i64 (.ofNat 0)),(.int .i64 (.ofNat 1)),(.int .i64 (.ofNat 417)),(.int .i64 (.ofNat 418)),(.int .i64 (.ofNat 0)),(.int .i64 (.ofNat 3)),(.int .i64 (.ofNat 419)),(.int .i64 (.ofNat 421)),(.int .i64 (.ofNat 0)),(.int .i64 (.ofNat 3)),(.int .i64 (.ofNat 422)),(.int .i64 (.ofNat 423)),(.int .i64 (.ofNat 0)),(.int .i64 (.ofNat 1)),(.int .i64 (.ofNat 423)),(.int .i64 (.ofNat 424)),(.int .i64 (.ofNat 0)),(.int .i64 (.ofNat 3)),(.int .i64 (.ofNat 424)),(.int .i64 (.ofNat 425)),(.int .i64 (.ofNat 0)),(.int .i64 (.ofNat 1)),(.int .i64 (.ofNat 425)),(.int .i64 (.ofNat 426)),(.int .i64 (.ofNat 0)),(.int .i64 (.ofNat 3)),(.int .i64 (.ofNat 427)),(.int .i64 (.ofNat 429)),(.int .i64 (.ofNat 0)),(.int .i64 (.ofNat 1)),(.int .i64 (.ofNat 430)),(.int .i64 (.ofNat 431)),(.int .i64 (.ofNat 0)),(.int .i64 (.ofNat 3)),(.int .i64 (.ofNat 432)),(.int .i64 (.ofNat 434)),(.int .i64 (.ofNat 0)),(.int .i64 (.ofNat 1)),(.int .i64 (.ofNat 435)),(.int .i64 (.ofNat 436)),(.int .i64 (.ofNat 0)),(.int .i64 (.ofNat 3)),(.int .i64 (.ofNat 437)),(.int .i64 (.ofNat 439)),(.int .i64 (.ofNat 0)),(.int .i64 (.ofNat 3)),(.int .i64 (.ofNat 440)),(.int .i64 (.ofNat 441)),(.int .i64 (.ofNat 0)),(.int .i64 (.ofNat 1)),(.int .i64 (.ofNat 441)),(.int .i64 (.ofNat 442)),(.int .i64 (.ofNat 0)),(.int .i64 (.ofNat 3)),(.int .i64 (.ofNat 442)),(.int .i64 (.ofNat 443)),(.int .i64 (.ofNat 0)),(.int .i64 (.ofNat 1)),(.int .i64 (.ofNat 443)),(.int .i64 (.ofNat 444)),(.int .i64 (.ofNat 0)),(.int .i64 (.ofNat 3)),(.int .i64 (.ofNat 444)),(.int .i64 (.ofNat 445)),(.int .i64 (.ofNat 0)),(.int .i64 (.ofNat 3)),(.int .i64 (.ofNat 445)),(.int .i64 (.ofNat 446)),(.int .i64 (.ofNat 0)),(.int .i64 (.ofNat 3)),(.int .i64 (.ofNat 447)),(.int .i64 (.ofNat 449)),(.int .i64 (.ofNat 0)),(.int .i64 (.ofNat 1)),(.int .i64 (.ofNat 450)),(.int .i64 (.ofNat 451)),(.int .i64 (.ofNat 0)),(.int .i64 (.ofNat 3)),(.int .i64 (.ofNat 452)),(.int .i64 (.ofNat 454)),(.int .i64 (.ofNat 0)),(.int .i64 (.ofNat 1)),(.int .i64 (.ofNat 455)),(.int .i64 (.ofNat 459)),(.int .i64 (.ofNat 0)),(.int .i64 (.ofNat 3)),(.int .i64 (.ofNat 459)),(.int .i64 (.ofNat 460)),(.int .i64 (.ofNat 0)),(.int .i64 (.ofNat 1)),(.int .i64 (.ofNat 460)),(.int .i64 (.ofNat 461)),(.int .i64 (.ofNat 0)),(.int .i64 (.ofNat 3)),(.int .i64 (.ofNat 462)),(.int .i64 (.ofNat 464)),(.int .i64 (.ofNat 0)),(.int .i64 (.ofNat 1)),(.int .i64 (.ofNat 465)),(.int .i64 (.ofNat 466)),(.int .i64 (.ofNat 0)),(.int .i64 (.ofNat 3)),(.int .i64 (.ofNat 467)),(.int .i64 (.ofNat 469)),(.int .i64 (.ofNat 0)),(.int .i64 (.ofNat 1)),(.int .i64 (.ofNat 470)),(.int .i64 (.ofNat 471)),(.int .i64 (.ofNat 0)),(.int .i64 (.ofNat 3)),(.int .i64 (.ofNat 471)),(.int .i64 (.ofNat 472)),(.int .i64 (.ofNat 0)),(.int .i64 (.ofNat 1)),(.int .i64 (.ofNat 472)),(.int .i64 (.ofNat 473)),(.int .i64 (.ofNat 0)),(.int .i64 (.ofNat 3)),(.int .i64 (.ofNat 473)),(.int .i64 (.ofNat 474)),(.int .i64 (.ofNat 0)),(.int .i64 (.ofNat 3)),(.int .i64 (.ofNat 474)),(.int .i64 (.ofNat 475)),(.int .i64 (.ofNat 0)),(.int .i64 (.ofNat 1)),(.int .i64 (.ofNat 476)),(.int .i64 (.ofNat 477)),(.int .i64 (.ofNat 0)),(.int .i64 (.ofNat 3)),(.int .i64 (.ofNat 478)),(.int .i64 (.ofNat 480)),(.int .i64 (.ofNat 0)),(.int .i64 (.ofNat 1)),(.int .i64 (.ofNat 481)),(.int .i64 (.ofNat 485)),(.int .i64 (.ofNat 0)),(.int .i64 (.ofNat 3)),(.int .i64 (.ofNat 485)),(.int .i64 (.ofNat 486)),(.int .i64 (.ofNat 0)),(.int .i64 (.ofNat 1)),(.int .i64 (.ofNat 486)),(.int .i64 (.ofNat 487)),(.int .i64 (.ofNat 0)),(.int .i64 (.ofNat 3)),(.int .i64 (.ofNat 488)),(.int .i64 (.ofNat 490)),(.int .i64 (.ofNat 0)),(.int .i64 (.ofNat 1)),(.int .i64 (.ofNat 491)),(.int .i64 (.ofNat 492)),(.int .i64 (.ofNat 0)),(.int .i64 (.ofNat 3)),(.int .i64 (.ofNat 493)),(.int .i64 (.ofNat 495)),(.int .i64 (.ofNat 0)),(.int .i64 (.ofNat 1)),(.int .i64 (.ofNat 496)),(.int .i64 (.ofNat 497)),(.int .i64 (.ofNat 0)),(.int .i64 (.ofNat 3)),(.int .i64 (.ofNat 497)),(.int .i64 (.ofNat 498)),(.int .i64 (.ofNat 0)),(.int .i64 (.ofNat 1)),(.int .i64 (.ofNat 498)),(.int .i64 (.ofNat 499)),(.int .i64 (.ofNat 0)),(.int .i64 (.ofNat 3)),(.int .i64 (.ofNat 499)),(.int .i64 (.ofNat 500)),(.int .i64 (.ofNat 0)),(.int .i64 (.ofNat 3)),(.int .i64 (.ofNat 500)),(.int .i64 (.ofNat 501)),(.int .i64 (.ofNat 0)),(.int .i64 (.ofNat 1)),(.int .i64 (.ofNat 502)),(.int .i64 (.ofNat 506)),(.int .i64 (.ofNat 0)),(.int .i64 (.ofNat 1)),(.int .i64 (.ofNat 507)),(.int .i64 (.ofNat 513)),(.int .i64 (.ofNat 0)),(.int .i64 (.ofNat 3)),(.int .i64 (.ofNat 513)),(.int .i64 (.ofNat 514)),(.int .i64 (.ofNat 0)),(.int .i64 (.ofNat 1)),(.int .i64 (.ofNat 515)),(.int .i64 (.ofNat 516)),(.int .i64 (.ofNat 0)),(.int .i64 (.ofNat 3)),(.int .i64 (.ofNat 517)),(.int .i64 (.ofNat 519)),(.int .i64 (.ofNat 0)),(.int .i64 (.ofNat 1)),(.int .i64 (.ofNat 520)),(.int .i64 (.ofNat 523)),(.int .i64 (.ofNat 0)),(.int .i64 (.ofNat 3)),(.int .i64 (.ofNat 523)),(.int .i64 (.ofNat 524)),(.int .i64 (.ofNat 0)),(.int .i64 (.ofNat 1)),(.int .i64 (.ofNat 524)),(.int .i64 (.ofNat 525)),(.int .i64 (.ofNat 0)),(.int .i64 (.ofNat 3)),(.int .i64 (.ofNat 525)),(.int .i64 (.ofNat 526)),(.int .i64 (.ofNat 0)),(.int .i64 (.ofNat 1)),(.int .i64 (.ofNat 526)),(.int .i64 (.ofNat 527)),(.int .i64 (.ofNat 0)),(.int .i64 (.ofNat 3)),(.int .i64 (.ofNat 528)),(.int .i64 (.ofNat 530)),(.int .i64 (.ofNat 0)),(.int .i64 (.ofNat 1)),(.int .i64 (.ofNat 531)),(.int .i64 (.ofNat 532)),(.int .i64 (.ofNat 0)),(.int .i64 (.ofNat 3)),(.int .i64 (.ofNat 532)),(.int .i64 (.ofNat 533)),(.int .i64 (.ofNat 0)),(.int .i64 (.ofNat 1)),(.int .i64 (.ofNat 533)),(.int .i64 (.ofNat 537)),(.int .i64 (.ofNat 0)),(.int .i64 (.ofNat 3)),(.int .i64 (.ofNat 538)),(.int .i64 (.ofNat 540)),(.int .i64 (.ofNat 0)),(.int .i64 (.ofNat 3)),(.int .i64 (.ofNat 541)),(.int .i64 (.ofNat 542)),(.int .i64 (.ofNat 0)),(.int .i64 (.ofNat 1)),(.int .i64 (.ofNat 542)),(.int .i64 (.ofNat 543)),(.int .i64 (.ofNat 0)),(.int .i64 (.ofNat 3)),(.int .i64 (.ofNat 543)),(.int .i64 (.ofNat 544)),(.int .i64 (.ofNat 0)),(.int .i64 (.ofNat 1)),(.int .i64 (.ofNat 544)),(.int .i64 (.ofNat 545)),(.int .i64 (.ofNat 0)),(.int .i64 (.ofNat 3)),(.int .i64 (.ofNat 546)),(.int .i64 (.ofNat 548)),(.int .i64 (.ofNat 0)),(.int .i64 (.ofNat 1)),(.int .i64 (.ofNat 549)),(.int .i64 (.ofNat 550)),(.int .i64 (.ofNat 0)),(.int .i64 (.ofNat 3)),(.int .i64 (.ofNat 550)),(.int .i64 (.ofNat 551)),(.int .i64 (.ofNat 0)),(.int .i64 (.ofNat 1)),(.int .i64 (.ofNat 551)),(.int .i64 (.ofNat 552)),(.int .i64 (.ofNat 0)),(.int .i64 (.ofNat 3)),(.int .i64 (.ofNat 553)),(.int .i64 (.ofNat 555)),(.int .i64 (.ofNat 0)),(.int .i64 (.ofNat 1)),(.int .i64 (.ofNat 556)),(.int .i64 (.ofNat 557)),(.int .i64 (.ofNat 0)),(.int .i64 (.ofNat 3)),(.int .i64 (.ofNat 557)),(.int .i64 (.ofNat 558)),(.int .i64 (.ofNat 0)),(.int .i64 (.ofNat 3)),(.int .i64 (.ofNat 559)),(.int .i64 (.ofNat 561)),(.int .i64 (.ofNat 0)),(.int .i64 (.ofNat 1)),(.int .i64 (.ofNat 562)),(.int .i64 (.ofNat 563)),(.int .i64 (.ofNat 0)),(.int .i64 (.ofNat 3)),(.int .i64 (.ofNat 564)),(.int .i64 (.ofNat 566)),(.int .i64 (.ofNat 0)),(.int .i64 (.ofNat 1)),(.int .i64 (.ofNat 567)),(.int .i64 (.ofNat 572)),(.int .i64 (.ofNat 0)),(.int .i64 (.ofNat 3)),(.int .i64 (.ofNat 572)),(.int .i64 (.ofNat 573)),(.int .i64 (.ofNat 0)),(.int .i64 (.ofNat 1)),(.int .i64 (.ofNat 574)),(.int .i64 (.ofNat 575)),(.int .i64 (.ofNat 0)),(.int .i64 (.ofNat 3)),(.int .i64 (.ofNat 576)),(.int .i64 (.ofNat 578)),(.int .i64 (.ofNat 0)),(.int .i64 (.ofNat 1)),(.int .i64 (.ofNat 579)),(.int .i64 (.ofNat 580)),(.int .i64 (.ofNat 0)),(.int .i64 (.ofNat 3)),(.int .i64 (.ofNat 581)),(.int .i64 (.ofNat 582)),(.int .i64 (.ofNat 0)),(.int .i64 (.ofNat 1)),(.int .i64 (.ofNat 583)),(.int .i64 (.ofNat 586)),(.int .i64 (.ofNat 0)),(.int .i64 (.ofNat 3)),(.int .i64 (.ofNat 586)),(.int .i64 (.ofNat 587)),(.int .i64 (.ofNat 0)),(.int .i64 (.ofNat 1)),(.int .i64 (.ofNat 587)),(.int .i64 (.ofNat 588)),(.int .i64 (.ofNat 0)),(.int .i64 (.ofNat 3)),(.int .i64 (.ofNat 588)),(.int .i64 (.ofNat 589)),(.int .i64 (.ofNat 0)),(.int .i64 (.ofNat 1)),(.int .i64 (.ofNat 589)),(.int .i64 (.ofNat 590)),(.int .i64 (.ofNat 0)),(.int .i64 (.ofNat 3)),(.int .i64 (.ofNat 591)),(.int .i64 (.ofNat 593)),(.int .i64 (.ofNat 0)),(.int .i64 (.ofNat 1)),(.int .i64 (.ofNat 594)),(.int .i64 (.ofNat 595)),(.int .i64 (.ofNat 0)),(.int .i64 (.ofNat 3)),(.int .i64 (.ofNat 595)),(.int .i64 (.ofNat 596)),(.int .i64 (.ofNat 0)),(.int .i64 (.ofNat 1)),(.int .i64 (.ofNat 596)),(.int .i64 (.ofNat 600)),(.int .i64 (.ofNat 0)),(.int .i64 (.ofNat 3)),(.int .i64 (.ofNat 601)),(.int .i64 (.ofNat 602)),(.int .i64 (.ofNat 0)),(.int .i64 (.ofNat 1)),(.int .i64 (.ofNat 603)),(.int .i64 (.ofNat 604)),(.int .i64 (.ofNat 0)),(.int .i64 (.ofNat 3)),(.int .i64 (.ofNat 604)),(.int .i64 (.ofNat 605)),(.int .i64 (.ofNat 0)),(.int .i64 (.ofNat 1)),(.int .i64 (.ofNat 605)),(.int .i64 (.ofNat 606)),(.int .i64 (.ofNat 0)),(.int .i64 (.ofNat 3)),(.int .i64 (.ofNat 607)),(.int .i64 (.ofNat 608)),(.int .i64 (.ofNat 0)),(.int .i64 (.ofNat 2)),(.int .i64 (.ofNat 609)),(.int .i64 (.ofNat 610)),(.int .i64 (.ofNat 0)),(.int .i64 (.ofNat 3)),(.int .i64 (.ofNat 610)),(.int .i64 (.ofNat 611)),(.int .i64 (.ofNat 0)),(.int .i64 (.ofNat 3)),(.int .i64 (.ofNat 611)),(.int .i64 (.ofNat 612)),(.int .i64 (.ofNat 0))])]
set_option maxHeartbeats 4000000 in
theorem me0:memoR rtab gp 4000 15 mu0 [2345]=some (mg0,2346,mo0):=by kernel_rfl
noncomputable def gextm1 (f:Nat) (us:List GV) (H:GH):Option (GV×GH):=bif Nat.beq f 15 then(bif isS us (71249362481079977452884316497893485862003781378380186443723211848324143362108177885825419081494821760013661206001097331844441314216469646330948494578433579262219834318486201028918376115292234488190700106942185120577518256511015159373632050200221875266428893346870089151936961848021402711157309556811570579452411680726714441114401627388096496024253845716638330773660915918662884872349758420128557367125203571583786029032399741638474503939646749525176616068912753182428383816770282999284942596549464335299041578590498704846876479973995637544997300808465629673589532931271276867856109758593603349879408733903821463777771303521998656430507938449710980075854559363989016083892713040828720973422783465502057059703922495107079261490020884616910566195303447459199789638099550237825859650229398681345092860498350921460315705906616442288394582691200440280135629162006963382844585911948056220785599387271665395519496413351471157088698250728565328718568235708145832114557345173602352771027404378663854631932098478169816132556163210119982019532849716161103768839540877472227068661770096791273707001174665743715154553128055607401500841088534854391588672059193795601211258321011231050774593156430084765392881009496824427195855467792851940283086600280108372309832209821085536023972216446949998813815478863454932518093775342849783278727011324956570494402720150194198228748565212249332223202955995657936385103356277284401707377096495385107540722377361240699143073602638306000298122043359982192,613)then memoK mg0 2346 mo0 H else gext f us H)else gext f us H
noncomputable def gpm1:GP:=⟨tyTab,gp.cat,gextm1,gp.exn⟩
theorem gextm1_ok {T:Nat} {w0:Base (gl T)} {w:World} {ρ:Rho} {H H':GH} {g:GV} {us:List GV} {vs:List Value} {f:Nat} (h:gextm1 f us H=some (g,H')) (R:Rel w0 ρ H w) (hr:RlL ρ us vs):CallSem Tryz.prog w0 ρ f vs w g H':=by
 unfold gextm1 at h
 cases e1:Nat.beq f 15 with
 |false=>rw[e1]at h;exact gext_ok h R hr
 | true =>
  rw[e1]at h
  cases e2:isS us (71249362481079977452884316497893485862003781378380186443723211848324143362108177885825419081494821760013661206001097331844441314216469646330948494578433579262219834318486201028918376115292234488190700106942185120577518256511015159373632050200221875266428893346870089151936961848021402711157309556811570579452411680726714441114401627388096496024253845716638330773660915918662884872349758420128557367125203571583786029032399741638474503939646749525176616068912753182428383816770282999284942596549464335299041578590498704846876479973995637544997300808465629673589532931271276867856109758593603349879408733903821463777771303521998656430507938449710980075854559363989016083892713040828720973422783465502057059703922495107079261490020884616910566195303447459199789638099550237825859650229398681345092860498350921460315705906616442288394582691200440280135629162006963382844585911948056220785599387271665395519496413351471157088698250728565328718568235708145832114557345173602352771027404378663854631932098478169816132556163210119982019532849716161103768839540877472227068661770096791273707001174665743715154553128055607401500841088534854391588672059193795601211258321011231050774593156430084765392881009496824427195855467792851940283086600280108372309832209821085536023972216446949998813815478863454932518093775342849783278727011324956570494402720150194198228748565212249332223202955995657936385103356277284401707377096495385107540722377361240699143073602638306000298122043359982192,613)with
  |false=>rw[e2]at h;exact gext_ok h R hr
  |true=>
   rw[e2]at h;rw[Nat.eq_of_beq_eq_true e1]
   rw[isS_eq e2]at hr
   obtain⟨V,rfl,hv⟩:=hr.one
   obtain⟨x,rfl,e3,e4⟩:=hv.str_inv
   exact memo_ok (gs:=gl T) (gs2:=gl T) rfl rfl rtab_ok gok me0 Tryz.call15 (RlL.cons (rl_str e3 e4) .nil) h R
theorem gokm1 {T:Nat} (w0:Base (gl T)):GOk Tryz.prog gpm1 rtab.fns w0:=⟨(gok w0).tab,(gok w0).mixed,(gok w0).fns,fun h ρ w vs R hr=>gextm1_ok h R hr,(gok w0).exn,(gok w0).cat⟩
def mu1:List GV:=[.str 71249362481079977452884316497893485862003781378380186443723211848324143362108177885825419081494821760013661206001097331844441314216469646330948494578433579262219834318486201028918376115292234488190700106942185120577518256511015159373632050200221875266428893346870089151936961848021402711157309556811570579452411680726714441114401627388096496024253845716638330773660915918662884872349758420128557367125203571583786029032399741638474503939646749525176616068912753182428383816770282999284942596549464335299041578590498704846876479973995637544997300808465629673589532931271276867856109758593603349879408733903821463777771303521998656430507938449710980075854559363989016083892713040828720973422783465502057059703922495107079261490020884616910566195303447459199789638099550237825859650229398681345092860498350921460315705906616442288394582691200440280135629162006963382844585911948056220785599387271665395519496413351471157088698250728565328718568235708145832114557345173602352771027404378663854631932098478169816132556163210119982019532849716161103768839540877472227068661770096791273707001174665743715154553128055607401500841088534854391588672059193795601211258321011231050774593156430084765392881009496824427195855467792851940283086600280108372309832209821085536023972216446949998813815478863454932518093775342849783278727011324956570494402720150194198228748565212249332223202955995657936385103356277284401707377096495385107540722377361240699143073602638306000298122043359982192 613]
def mg1:GV:=(.tup [(.agg [(.str 8390039475830484595 8),(.sl 2614 0 6 6),(.sl 4518 0 5 3)]),(.int .i64 (.ofNat 0)),(.int .i64 (.ofNat 0))])
def mo1:OL:=[(2614,2614,.cells [(.str 100 1),(.int .i64 (.ofNat 1)),(.int .i64 (.ofNat 0)),(.int .i64 (.ofNat 0)),(.int .i64 (.ofNat 1)),(.int .i64 (.ofNat 0)),(.str 112 1),(.int .i64 (.ofNat 3)),(.int .i64 (.ofNat 0)),(.int .i64 (.ofNat 0)),(.int .i64 (.ofNat 0)),(.int .i64 (.ofNat 0)),(.str 115 1),(.int .i64 (.ofNat 2)),(.int .i64 (.ofNat 0)),(.int .i64 (.ofNat 0)),(.int .i64 (.ofNat 0)),(.int .i64 (.ofNat 0)),(.str 98 1),(.int .i64 (.ofNat 2)),(.int .i64 (.ofNat 0)),(.int .i64 (.ofNat 0)),(.int .i64 (.ofNat 0)),(.int .i64 (.ofNat 0)),(.str 120 1),(.int .i64 (.ofNat 1)),(.int .i64 (.ofNat 0)),(.int .i64 (.ofNat 15)),(.int .i64 (.ofNat 0)),(.int .i64 (.ofNat 0)),(.str 97 1),(.int .i64 (.ofNat 1)),(.int .i64 (.ofNat 0)),(.int .i64 (.ofNat 0)),(.int .i64 (.ofNat 15)),(.int .i64 (.ofNat 0))]),
 (2738,2738,.cells [(.int .i64 (.ofNat 41)),(.int .i64 (.ofNat 0)),(.int .i64 (.ofNat 10)),(.int .i64 (.ofNat 0)),(.int .i64 (.ofNat 42)),(.int .i64 (.ofNat 0)),(.int .i64 (.ofNat 36)),(.int .i64 (.ofNat 0)),(.int .i64 (.ofNat 5)),(.int .i64 (.ofNat 0)),(.int .i64 (.ofNat 1)),(.int .i64 (.ofNat 0)),(.int .i64 (.ofNat 36)),(.int .i64 (.ofNat 0)),(.int .i64 (.ofNat 5)),(.int .i64 (.ofNat 1)),(.int .i64 (.ofNat 4)),(.int .i64 (.ofNat 0))]),
 (2764,2764,.cells [(.int .i64 (.ofNat 1)),(.int .i64 (.ofNat 0))]),
 (2797,2797,.cells [(.int .i64 (.ofNat 4)),(.int .i64 (.ofNat 0))]),
 (2805,2805,.cells [(.int .i64 (.ofNat 0)),(.sl 2764 0 1 2),(.int .i64 (.ofNat 1)),(.sl 2797 0 1 2)]),
 (3193,3193,.cells [(.int .i64 (.ofNat 41)),(.int .i64 (.ofNat 0)),(.int .i64 (.ofNat 19)),(.int .i64 (.ofNat 0)),(.int .i64 (.ofNat 10)),(.int .i64 (.ofNat 0)),(.int .i64 (.ofNat 42)),(.int .i64 (.ofNat 0)),(.int .i64 (.ofNat 36)),(.int .i64 (.ofNat 0)),(.int .i64 (.ofNat 5)),(.int .i64 (.ofNat 0)),(.int .i64 (.ofNat 43)),(.int .i64 (.ofNat 0)),(.int .i64 (.ofNat 37)),(.int .i64 (.ofNat 0)),(.int .i64 (.ofNat 24)),(.int .i64 (.ofNat 0)),(.int .i64 (.ofNat 12)),(.int .i64 (.ofNat 0)),(.int .i64 (.ofNat 6)),(.int .i64 (.ofNat 0)),(.int .i64 (.ofNat 33)),(.int .i64 (.ofNat 0)),(.int .i64 (.ofNat 24)),(.int .i64 (.ofNat 0)),(.int .i64 (.ofNat 12)),(.int .i64 (.ofNat 0)),(.int .i64 (.ofNat 1)),(.int .i64 (.ofNat 1)),(.int .i64 (.ofNat 6)),(.int .i64 (.ofNat 0)),(.int .i64 (.ofNat 36)),(.int .i64 (.ofNat 0)),(.int .i64 (.ofNat 5)),(.int .i64 (.ofNat 1)),(.int .i64 (.ofNat 23)),(.int .i64 (.ofNat 0)),(.int .i64 (.ofNat 35)),(.int .i64 (.ofNat 0)),(.int .i64 (.ofNat 12)),(.int .i64 (.ofNat 0)),(.int .i64 (.ofNat 24)),(.int .i64 (.ofNat 0)),(.int .i64 (.ofNat 12)),(.int .i64 (.ofNat 0))]),
 (3374,3374,.cells [(.int .i64 (.ofNat 43)),(.int .i64 (.ofNat 0)),(.int .i64 (.ofNat 37)),(.int .i64 (.ofNat 0)),(.int .i64 (.ofNat 24)),(.int .i64 (.ofNat 0)),(.int .i64 (.ofNat 12)),(.int .i64 (.ofNat 0)),(.int .i64 (.ofNat 6)),(.int .i64 (.ofNat 0)),(.int .i64 (.ofNat 33)),(.int .i64 (.ofNat 0)),(.int .i64 (.ofNat 24)),(.int .i64 (.ofNat 0)),(.int .i64 (.ofNat 12)),(.int .i64 (.ofNat 0)),(.int .i64 (.ofNat 1)),(.int .i64 (.ofNat 1)),(.int .i64 (.ofNat 6)),(.int .i64 (.ofNat 0))]),
 (3500,3500,.cells [(.int .i64 (.ofNat 23)),(.int .i64 (.ofNat 0)),(.int .i64 (.ofNat 35)),(.int .i64 (.ofNat 0)),(.int .i64 (.ofNat 12)),(.int .i64 (.ofNat 0)),(.int .i64 (.ofNat 24)),(.int .i64 (.ofNat 0)),(.int .i64 (.ofNat 12)),(.int .i64 (.ofNat 0))]),
 (3508,3508,.cells [(.int .i64 (.ofNat 0)),(.sl 3374 0 10 2),(.int .i64 (.ofNat 1)),(.sl 3500 0 5 2)]),
 (3576,3576,.cells [(.int .i64 (.ofNat 41)),(.int .i64 (.ofNat 0)),(.int .i64 (.ofNat 10)),(.int .i64 (.ofNat 0)),(.int .i64 (.ofNat 19)),(.int .i64 (.ofNat 0)),(.int .i64 (.ofNat 5)),(.int .i64 (.ofNat 2))]),
 (3603,3603,.cells [(.int .i64 (.ofNat 2)),(.int .i64 (.ofNat 0))]),
 (3645,3645,.cells [(.int .i64 (.ofNat 19)),(.int .i64 (.ofNat 0)),(.int .i64 (.ofNat 5)),(.int .i64 (.ofNat 3))]),
 (3653,3653,.cells [(.int .i64 (.ofNat 2)),(.sl 3603 0 1 2),(.int .i64 (.ofNat 3)),(.sl 3645 0 2 2)]),
 (3887,3887,.cells [(.int .i64 (.ofNat 41)),(.int .i64 (.ofNat 0)),(.int .i64 (.ofNat 19)),(.int .i64 (.ofNat 0)),(.int .i64 (.ofNat 10)),(.int .i64 (.ofNat 0)),(.int .i64 (.ofNat 21)),(.int .i64 (.ofNat 0)),(.int .i64 (.ofNat 41)),(.int .i64 (.ofNat 0)),(.int .i64 (.ofNat 35)),(.int .i64 (.ofNat 0)),(.int .i64 (.ofNat 11)),(.int .i64 (.ofNat 0)),(.int .i64 (.ofNat 5)),(.int .i64 (.ofNat 1)),(.int .i64 (.ofNat 42)),(.int .i64 (.ofNat 0)),(.int .i64 (.ofNat 36)),(.int .i64 (.ofNat 0)),(.int .i64 (.ofNat 12)),(.int .i64 (.ofNat 3)),(.int .i64 (.ofNat 5)),(.int .i64 (.ofNat 3)),(.int .i64 (.ofNat 41)),(.int .i64 (.ofNat 0)),(.int .i64 (.ofNat 5)),(.int .i64 (.ofNat 2)),(.int .i64 (.ofNat 19)),(.int .i64 (.ofNat 0)),(.int .i64 (.ofNat 12)),(.int .i64 (.ofNat 2))]),
 (3987,3987,.cells [(.int .i64 (.ofNat 21)),(.int .i64 (.ofNat 0)),(.int .i64 (.ofNat 41)),(.int .i64 (.ofNat 0)),(.int .i64 (.ofNat 35)),(.int .i64 (.ofNat 0)),(.int .i64 (.ofNat 11)),(.int .i64 (.ofNat 0)),(.int .i64 (.ofNat 5)),(.int .i64 (.ofNat 1)),(.int .i64 (.ofNat 12)),(.int .i64 (.ofNat 2))]),
 (4093,4093,.cells [(.int .i64 (.ofNat 21)),(.int .i64 (.ofNat 0)),(.int .i64 (.ofNat 41)),(.int .i64 (.ofNat 0)),(.int .i64 (.ofNat 35)),(.int .i64 (.ofNat 0)),(.int .i64 (.ofNat 11)),(.int .i64 (.ofNat 0)),(.int .i64 (.ofNat 5)),(.int .i64 (.ofNat 1)),(.int .i64 (.ofNat 12)),(.int .i64 (.ofNat 3))]),
 (4101,4101,.cells [(.int .i64 (.ofNat 2)),(.sl 3987 0 6 2),(.int .i64 (.ofNat 3)),(.sl 4093 0 6 2)]),
 (4312,4312,.cells [(.int .i64 (.ofNat 41)),(.int .i64 (.ofNat 0)),(.int .i64 (.ofNat 5)),(.int .i64 (.ofNat 2)),(.int .i64 (.ofNat 20)),(.int .i64 (.ofNat 0)),(.int .i64 (.ofNat 42)),(.int .i64 (.ofNat 0)),(.int .i64 (.ofNat 36)),(.int .i64 (.ofNat 0)),(.int .i64 (.ofNat 12)),(.int .i64 (.ofNat 1)),(.int .i64 (.ofNat 17)),(.int .i64 (.ofNat 0)),(.int .i64 (.ofNat 41)),(.int .i64 (.ofNat 0)),(.int .i64 (.ofNat 19)),(.int .i64 (.ofNat 0)),(.int .i64 (.ofNat 12)),(.int .i64 (.ofNat 2)),(.int .i64 (.ofNat 35)),(.int .i64 (.ofNat 0)),(.int .i64 (.ofNat 12)),(.int .i64 (.ofNat 3)),(.int .i64 (.ofNat 5)),(.int .i64 (.ofNat 3))]),
 (4339,4339,.cells [(.int .i64 (.ofNat 3)),(.int .i64 (.ofNat 0))]),
 (4503,4503,.cells [(.int .i64 (.ofNat 33)),(.int .i64 (.ofNat 0)),(.int .i64 (.ofNat 5)),(.int .i64 (.ofNat 4)),(.int .i64 (.ofNat 26)),(.int .i64 (.ofNat 0)),(.int .i64 (.ofNat 43)),(.int .i64 (.ofNat 0)),(.int .i64 (.ofNat 35)),(.int .i64 (.ofNat 0)),(.int .i64 (.ofNat 12)),(.int .i64 (.ofNat 1)),(.int .i64 (.ofNat 17)),(.int .i64 (.ofNat 0)),(.int .i64 (.ofNat 12)),(.int .i64 (.ofNat 5)),(.int .i64 (.ofNat 1)),(.int .i64 (.ofNat 0))]),
 (4510,4510,.cells [(.int .i64 (.ofNat 2)),(.sl 4339 0 1 2),(.int .i64 (.ofNat 5)),(.sl 4503 0 9 2)]),
 (4518,4518,.cells [(.str 7368564 3),(.sl 2738 0 9 2),(.sl 2805 0 2 2),(.str 7827308 3),(.sl 3193 0 23 2),(.sl 3508 0 2 2),(.str 474214786402 5),(.sl 3576 0 4 2),(.sl 3653 0 2 2),(.str 1701536116 4),(.sl 3887 0 16 2),(.sl 4101 0 2 2),(.str 114844899371366 6),(.sl 4312 0 13 2),(.sl 4510 0 2 2)])]
set_option maxHeartbeats 4000000 in
theorem me1:memoR rtab gpm1 4000 5 mu1 [2614,2738,2764,2797,2805,3193,3374,3500,3508,3576,3603,3645,3653,3887,3987,4093,4101,4312,4339,4503,4510,4518]=some (mg1,6838,mo1):=by kernel_rfl
noncomputable def gextm2 (f:Nat) (us:List GV) (H:GH):Option (GV×GH):=bif Nat.beq f 5 then(bif isS us (71249362481079977452884316497893485862003781378380186443723211848324143362108177885825419081494821760013661206001097331844441314216469646330948494578433579262219834318486201028918376115292234488190700106942185120577518256511015159373632050200221875266428893346870089151936961848021402711157309556811570579452411680726714441114401627388096496024253845716638330773660915918662884872349758420128557367125203571583786029032399741638474503939646749525176616068912753182428383816770282999284942596549464335299041578590498704846876479973995637544997300808465629673589532931271276867856109758593603349879408733903821463777771303521998656430507938449710980075854559363989016083892713040828720973422783465502057059703922495107079261490020884616910566195303447459199789638099550237825859650229398681345092860498350921460315705906616442288394582691200440280135629162006963382844585911948056220785599387271665395519496413351471157088698250728565328718568235708145832114557345173602352771027404378663854631932098478169816132556163210119982019532849716161103768839540877472227068661770096791273707001174665743715154553128055607401500841088534854391588672059193795601211258321011231050774593156430084765392881009496824427195855467792851940283086600280108372309832209821085536023972216446949998813815478863454932518093775342849783278727011324956570494402720150194198228748565212249332223202955995657936385103356277284401707377096495385107540722377361240699143073602638306000298122043359982192,613)then memoK mg1 6838 mo1 H else gextm1 f us H)else gextm1 f us H
noncomputable def gpm2:GP:=⟨tyTab,gp.cat,gextm2,gp.exn⟩
theorem gextm2_ok {T:Nat} {w0:Base (gl T)} {w:World} {ρ:Rho} {H H':GH} {g:GV} {us:List GV} {vs:List Value} {f:Nat} (h:gextm2 f us H=some (g,H')) (R:Rel w0 ρ H w) (hr:RlL ρ us vs):CallSem Tryz.prog w0 ρ f vs w g H':=by
 unfold gextm2 at h
 cases e1:Nat.beq f 5 with
 |false=>rw[e1]at h;exact gextm1_ok h R hr
 | true =>
  rw[e1]at h
  cases e2:isS us (71249362481079977452884316497893485862003781378380186443723211848324143362108177885825419081494821760013661206001097331844441314216469646330948494578433579262219834318486201028918376115292234488190700106942185120577518256511015159373632050200221875266428893346870089151936961848021402711157309556811570579452411680726714441114401627388096496024253845716638330773660915918662884872349758420128557367125203571583786029032399741638474503939646749525176616068912753182428383816770282999284942596549464335299041578590498704846876479973995637544997300808465629673589532931271276867856109758593603349879408733903821463777771303521998656430507938449710980075854559363989016083892713040828720973422783465502057059703922495107079261490020884616910566195303447459199789638099550237825859650229398681345092860498350921460315705906616442288394582691200440280135629162006963382844585911948056220785599387271665395519496413351471157088698250728565328718568235708145832114557345173602352771027404378663854631932098478169816132556163210119982019532849716161103768839540877472227068661770096791273707001174665743715154553128055607401500841088534854391588672059193795601211258321011231050774593156430084765392881009496824427195855467792851940283086600280108372309832209821085536023972216446949998813815478863454932518093775342849783278727011324956570494402720150194198228748565212249332223202955995657936385103356277284401707377096495385107540722377361240699143073602638306000298122043359982192,613)with
  |false=>rw[e2]at h;exact gextm1_ok h R hr
  |true=>
   rw[e2]at h;rw[Nat.eq_of_beq_eq_true e1]
   rw[isS_eq e2]at hr
   obtain⟨V,rfl,hv⟩:=hr.one
   obtain⟨x,rfl,e3,e4⟩:=hv.str_inv
   exact memo_ok (gs:=gl T) (gs2:=gl T) rfl rfl rtab_ok gokm1 me1 Tryz.call5 (RlL.cons (rl_str e3 e4) .nil) h R
theorem gokm2 {T:Nat} (w0:Base (gl T)):GOk Tryz.prog gpm2 rtab.fns w0:=⟨(gok w0).tab,(gok w0).mixed,(gok w0).fns,fun h ρ w vs R hr=>gextm2_ok h R hr,(gok w0).exn,(gok w0).cat⟩
noncomputable abbrev gp2:GP:=gpm2
theorem gok2 {T:Nat} (w0:Base (gl T)):GOk Tryz.prog gp2 rtab.fns w0:=gokm2 w0
end Go.Gx
end
section
namespace Go.Proofs.YtdbcpliafeoghaaGreatDoor
open Go Go.Sx Go.Gx
set_option maxRecDepth 100000
def ptext:ByteArray:=(ByteArray.mk #[112,114,111,103,114,97,109,32,115,110,97,112,115,104,111,116,59,10,118,97,114,32,100,32,58,32,48,32,46,46,32,110,59,10,118,97,114,32,112,32,58,32,112,111,114,116,59,10,118,97,114,32,115,32,58,32,98,111,111,108,59,10,118,97,114,32,98,32,58,32,98,111,111,108,59,10,118,97,114,32,120,32,58,32,48,32,46,46,32,49,53,59,10,118,97,114,32,97,32,58,32,48,32,46,46,32,49,53,32,42,32,110,59,10,114,117,108,101,32,116,111,112,58,32,114,111,111,116,32,38,38,32,40,100,32,33,61,32,48,32,124,124,32,112,32,33,61,32,110,111,110,101,41,32,45,62,32,100,32,58,61,32,48,44,32,112,32,58,61,32,110,111,110,101,59,10,114,117,108,101,32,108,111,119,58,32,33,114,111,111,116,32,38,38,32,40,100,32,33,61,32,40,109,105,110,40,113,46,100,41,32,60,32,110,32,63,32,109,105,110,40,113,46,100,41,32,43,32,49,32,58,32,110,41,32,124,124,32,112,32,33,61,32,102,105,114,115,116,40,113,46,100,32,61,61,32,109,105,110,40,113,46,100,41,41,41,10,32,32,45,62,32,100,32,58,61,32,40,109,105,110,40,113,46,100,41,32,60,32,110,32,63,32,109,105,110,40,113,46,100,41,32,43,32,49,32,58,32,110,41,44,32,112,32,58,61,32,102,105,114,115,116,40,113,46,100,32,61,61,32,109,105,110,40,113,46,100,41,41,59,10,114,117,108,101,32,98,101,103,105,110,58,32,114,111,111,116,32,38,38,32,33,115,32,45,62,32,115,32,58,61,32,116,114,117,101,44,32,98,32,58,61,32,33,98,59,10,114,117,108,101,32,116,97,107,101,58,32,33,114,111,111,116,32,38,38,32,115,111,109,101,40,113,32,61,61,32,112,32,38,38,32,40,113,46,98,32,33,61,32,98,32,124,124,32,115,32,38,38,32,33,113,46,115,41,41,32,45,62,32,115,32,58,61,32,115,111,109,101,40,113,32,61,61,32,112,32,38,38,32,113,46,115,41,44,32,98,32,58,61,32,115,111,109,101,40,113,32,61,61,32,112,32,38,38,32,113,46,98,41,59,10,114,117,108,101,32,102,105,110,105,115,104,58,32,115,32,38,38,32,97,108,108,40,113,46,112,32,33,61,32,113,46,98,97,99,107,32,124,124,32,33,113,46,115,32,38,38,32,113,46,98,32,61,61,32,98,41,32,45,62,32,115,32,58,61,32,102,97,108,115,101,44,32,97,32,58,61,32,120,32,43,32,115,117,109,40,113,46,112,32,61,61,32,113,46,98,97,99,107,32,63,32,113,46,97,32,58,32,48,41,59,10])
def pvars:List (ByteArray×Int×Int×Int×Int×Int):=[((ByteArray.mk #[100]),(1:Int),(0:Int),(0:Int),(1:Int),(0:Int)),((ByteArray.mk #[112]),(3:Int),(0:Int),(0:Int),(0:Int),(0:Int)),((ByteArray.mk #[115]),(2:Int),(0:Int),(0:Int),(0:Int),(0:Int)),((ByteArray.mk #[98]),(2:Int),(0:Int),(0:Int),(0:Int),(0:Int)),((ByteArray.mk #[120]),(1:Int),(0:Int),(15:Int),(0:Int),(0:Int)),((ByteArray.mk #[97]),(1:Int),(0:Int),(0:Int),(15:Int),(0:Int))]
def m_program_Parse (fuel:Nat) (p0:ByteArray):Option (ByteArray×List (ByteArray×Int×Int×Int×Int×Int)×Int×Int):=if p0=ptext then some ((ByteArray.mk #[115,110,97,112,115,104,111,116]),pvars,(0:Int),(0:Int))else none
theorem body5:HasBody Tryz.prog 5:=Tryz.call5
theorem parse_text:encS ptext=(71249362481079977452884316497893485862003781378380186443723211848324143362108177885825419081494821760013661206001097331844441314216469646330948494578433579262219834318486201028918376115292234488190700106942185120577518256511015159373632050200221875266428893346870089151936961848021402711157309556811570579452411680726714441114401627388096496024253845716638330773660915918662884872349758420128557367125203571583786029032399741638474503939646749525176616068912753182428383816770282999284942596549464335299041578590498704846876479973995637544997300808465629673589532931271276867856109758593603349879408733903821463777771303521998656430507938449710980075854559363989016083892713040828720973422783465502057059703922495107079261490020884616910566195303447459199789638099550237825859650229398681345092860498350921460315705906616442288394582691200440280135629162006963382844585911948056220785599387271665395519496413351471157088698250728565328718568235708145832114557345173602352771027404378663854631932098478169816132556163210119982019532849716161103768839540877472227068661770096791273707001174665743715154553128055607401500841088534854391588672059193795601211258321011231050774593156430084765392881009496824427195855467792851940283086600280108372309832209821085536023972216446949998813815478863454932518093775342849783278727011324956570494402720150194198228748565212249332223202955995657936385103356277284401707377096495385107540722377361240699143073602638306000298122043359982192,613):=by kernel_rfl
theorem parse_name:encS (ByteArray.mk #[115,110,97,112,115,104,111,116])=(8390039475830484595,8):=by kernel_rfl
theorem parse_vars:decS (mkH 6838 mo1) 6 (dP 1 dStr (dP 1 (dI .i64) (dP 1 (dI .i64) (dP 1 (dI .i64) (dP 1 (dI .i64) (dI .i64)))))) (.sl 2614 0 6 6)=some (pvars.map fun z=>(encS z.1,z.2.1,z.2.2.1,z.2.2.2.1,z.2.2.2.2.1,z.2.2.2.2.2)):=by kernel_rfl
theorem t_program_Parse (fuel:Nat) {p0:ByteArray} (r:ByteArray×List (ByteArray×Int×Int×Int×Int×Int)×Int×Int) (h:m_program_Parse fuel p0=some r):
  Meets Tryz.prog 5 #[Value.string p0] [Gb 0 (cellsOf EU8 tab0)] (fun x:Value×Value=>Value.tuple #[Value.agg #[Value.string (r.1),x.1,x.2],Value.int .i64 (r.2.2.1),Value.int .i64 (r.2.2.2)]) (fun x l=>l) (fun x l=>Sl RStI64I64I64I64I64p x.1 r.2.1::Onef x.2::l):=by
 unfold m_program_Parse at h
 split at h
 ·rename_i e;subst e;cases h
  refine meets_memo (gs:=gl) (LO:=fun x:Value×Value=>[Sl RStI64I64I64I64I64p x.1 pvars,Onef x.2]) glsOne (fun T b=>memo_base rtab_ok gokm1 me1 body5 (.cons (rl_str (x:=ptext) (congrArg Prod.fst parse_text).symm (congrArg Prod.snd parse_text).symm) .nil) rfl b) ?_
  intro T b ρ w V hm R hr
  obtain⟨vs,rfl,hl⟩:=Rl.tup_inv hr
  obtain⟨V1,vs,rfl,h1,hl⟩:=hl.of_cons
  obtain⟨V2,vs,rfl,h2,hl⟩:=hl.of_cons
  obtain⟨V3,rfl,h3⟩:=hl.one
  obtain⟨bs,rfl,hl,_⟩:=h1.agg_inv
  obtain⟨A1,bs,rfl,a1,hl⟩:=hl.of_cons
  obtain⟨A2,bs,rfl,a2,hl⟩:=hl.of_cons
  obtain⟨A3,rfl,a3⟩:=hl.one
  obtain rfl:=str_lit a1 parse_name
  obtain rfl:=h2.int_inv
  obtain rfl:=h3.int_inv
  obtain⟨zs,hz,hs⟩:=decS_ok R hm (Reads.pair Reads.str (Reads.pair (Reads.int .i64) (Reads.pair (Reads.int .i64) (Reads.pair (Reads.int .i64) (Reads.pair (Reads.int .i64) (Reads.int .i64)))))) a2 parse_vars
  have hzs:zs=pvars:=map_inj_of (inj_pair (fun _ _=>encS_inj) (inj_pair inj_id (inj_pair inj_id (inj_pair inj_id (inj_pair inj_id inj_id))))) hz
  subst hzs
  exact⟨(A2,A3),rfl,List.forall_mem_cons.2 ⟨hs,List.forall_mem_cons.2 ⟨one_of_sl a3,fun q hq=>absurd hq List.not_mem_nil⟩⟩⟩
 ·cases h
end Go.Proofs.YtdbcpliafeoghaaGreatDoor
end
section
namespace Go.Proofs.YtdbcpliafeoghaaGreatDoor
open Go.Sx
def m_snapshot_Text (fuel:Nat)  : Option (ByteArray):=
 some (ByteArray.mk #[112,114,111,103,114,97,109,32,115,110,97,112,115,104,111,116,59,10,118,97,114,32,100,32,58,32,48,32,46,46,32,110,59,10,118,97,114,32,112,32,58,32,112,111,114,116,59,10,118,97,114,32,115,32,58,32,98,111,111,108,59,10,118,97,114,32,98,32,58,32,98,111,111,108,59,10,118,97,114,32,120,32,58,32,48,32,46,46,32,49,53,59,10,118,97,114,32,97,32,58,32,48,32,46,46,32,49,53,32,42,32,110,59,10,114,117,108,101,32,116,111,112,58,32,114,111,111,116,32,38,38,32,40,100,32,33,61,32,48,32,124,124,32,112,32,33,61,32,110,111,110,101,41,32,45,62,32,100,32,58,61,32,48,44,32,112,32,58,61,32,110,111,110,101,59,10,114,117,108,101,32,108,111,119,58,32,33,114,111,111,116,32,38,38,32,40,100,32,33,61,32,40,109,105,110,40,113,46,100,41,32,60,32,110,32,63,32,109,105,110,40,113,46,100,41,32,43,32,49,32,58,32,110,41,32,124,124,32,112,32,33,61,32,102,105,114,115,116,40,113,46,100,32,61,61,32,109,105,110,40,113,46,100,41,41,41,10,32,32,45,62,32,100,32,58,61,32,40,109,105,110,40,113,46,100,41,32,60,32,110,32,63,32,109,105,110,40,113,46,100,41,32,43,32,49,32,58,32,110,41,44,32,112,32,58,61,32,102,105,114,115,116,40,113,46,100,32,61,61,32,109,105,110,40,113,46,100,41,41,59,10,114,117,108,101,32,98,101,103,105,110,58,32,114,111,111,116,32,38,38,32,33,115,32,45,62,32,115,32,58,61,32,116,114,117,101,44,32,98,32,58,61,32,33,98,59,10,114,117,108,101,32,116,97,107,101,58,32,33,114,111,111,116,32,38,38,32,115,111,109,101,40,113,32,61,61,32,112,32,38,38,32,40,113,46,98,32,33,61,32,98,32,124,124,32,115,32,38,38,32,33,113,46,115,41,41,32,45,62,32,115,32,58,61,32,115,111,109,101,40,113,32,61,61,32,112,32,38,38,32,113,46,115,41,44,32,98,32,58,61,32,115,111,109,101,40,113,32,61,61,32,112,32,38,38,32,113,46,98,41,59,10,114,117,108,101,32,102,105,110,105,115,104,58,32,115,32,38,38,32,97,108,108,40,113,46,112,32,33,61,32,113,46,98,97,99,107,32,124,124,32,33,113,46,115,32,38,38,32,113,46,98,32,61,61,32,98,41,32,45,62,32,115,32,58,61,32,102,97,108,115,101,44,32,97,32,58,61,32,120,32,43,32,115,117,109,40,113,46,112,32,61,61,32,113,46,98,97,99,107,32,63,32,113,46,97,32,58,32,48,41,59,10])
theorem body11:HasBody Tryz.prog 11:=Tryz.call11
theorem t_snapshot_Text (fuel:Nat)  (r:ByteArray) (h:m_snapshot_Text fuel  = some r):
  Meets Tryz.prog 11 #[] [] (fun x:Unit=>Value.string (r)) (fun x l=>l) (fun _ l=>l):=by
 refine Meets.of (vs:=[]) Tryz.func11 rfl Tryz.ntmps11 rfl fun c=> ?_
 unfold m_snapshot_Text at h
 refine J.seq<|J.region<|J.quiet (Y.assign rfl) rfl<|J.done<|J.thenN<|J.seq<|J.region<|J.quiet (Y.assign rfl) rfl<|J.done<|J.thenN<|J.ret ?_
 obtain rfl:=Option.some.inj h
 exact J.retG1 (()) rfl rfl (RV.tmp rfl) (SubM.refl _) LentAll.nil
end Go.Proofs.YtdbcpliafeoghaaGreatDoor
end
section
namespace Go.Proofs.YtdbcpliafeoghaaGreatDoor
open Go.Sx
def m_ref23_Truth (fuel:Nat) (p0:ByteArray):Option ((ByteArray×Int×Int×Int×Int×Int)):=
 some ((p0,(2:Int),(0:Int),(0:Int),(0:Int),(0:Int)))
theorem body21:HasBody Tryz.prog 21:=Tryz.call21
theorem t_ref23_Truth (fuel:Nat) {p0:ByteArray} (r:(ByteArray×Int×Int×Int×Int×Int)) (h:m_ref23_Truth fuel p0=some r):
  Meets Tryz.prog 21 #[Value.string (p0)] [] (fun x:Unit=>Value.agg #[Value.string (r.1),Value.int .i64 (r.2.1),Value.int .i64 (r.2.2.1),Value.int .i64 (r.2.2.2.1),Value.int .i64 (r.2.2.2.2.1),Value.int .i64 (r.2.2.2.2.2)]) (fun x l=>l) (fun _ l=>l):=by
 refine Meets.of (vs:=[Value.string (p0)]) Tryz.func21 rfl Tryz.ntmps21 rfl fun c=> ?_
 unfold m_ref23_Truth at h
 refine J.seq<|J.region<|J.loud (Loud.alloc (cs:=[Value.string (ByteArray.mk #[]),Value.int .i64 (0:Int),Value.int .i64 (0:Int),Value.int .i64 (0:Int),Value.int .i64 (0:Int),Value.int .i64 (0:Int)]) rfl rfl) rfl fun b1=>J.done<|J.thenN<|J.seq<|J.region<|J.quiet (Y.move rfl) rfl ?_
 refine J.quiet (Y.bld2 (r:=Value.agg #[Value.string (p0),Value.int .i64 (2:Int),Value.int .i64 (0:Int),Value.int .i64 (0:Int),Value.int .i64 (0:Int),Value.int .i64 (0:Int)]) rfl rfl (by intro w;simp[Instr.build,Instr.fill,cells_intV,cells_boolV,cells_sliceV,cells_ptrV,cells_strV,cells_funcV,cells_agg])) rfl ?_
 refine J.storeAll 0 (vs:=[Value.string (p0),Value.int .i64 (2:Int),Value.int .i64 (0:Int),Value.int .i64 (0:Int),Value.int .i64 (0:Int),Value.int .i64 (0:Int)]) rfl rfl rfl rfl rfl rfl<|J.done<|J.thenN<|J.ret ?_
 obtain rfl:=Option.some.inj h
 exact J.retG1 (()) rfl rfl (RV.cell 0 rfl rfl rfl rfl) (SubM.nil) LentAll.nil
end Go.Proofs.YtdbcpliafeoghaaGreatDoor
end
section
namespace Go.Proofs.YtdbcpliafeoghaaGreatDoor
open Go.Sx
def m_ref23_Number (fuel:Nat) (p0:ByteArray) (p1:Int) (p2:Int) (p3:Int):Option ((ByteArray×Int×Int×Int×Int×Int)):=
 some ((p0,(1:Int),(0:Int),p1,p2,p3))
theorem body20:HasBody Tryz.prog 20:=Tryz.call20
theorem t_ref23_Number (fuel:Nat) {p0:ByteArray} {p1:Int} {p2:Int} {p3:Int} (r:(ByteArray×Int×Int×Int×Int×Int)) (h:m_ref23_Number fuel p0 p1 p2 p3=some r):
  Meets Tryz.prog 20 #[Value.string (p0),Value.int .i64 (p1),Value.int .i64 (p2),Value.int .i64 (p3)] [] (fun x:Unit=>Value.agg #[Value.string (r.1),Value.int .i64 (r.2.1),Value.int .i64 (r.2.2.1),Value.int .i64 (r.2.2.2.1),Value.int .i64 (r.2.2.2.2.1),Value.int .i64 (r.2.2.2.2.2)]) (fun x l=>l) (fun _ l=>l):=by
 refine Meets.of (vs:=[Value.string (p0),Value.int .i64 (p1),Value.int .i64 (p2),Value.int .i64 (p3)]) Tryz.func20 rfl Tryz.ntmps20 rfl fun c=> ?_
 unfold m_ref23_Number at h
 refine J.seq<|J.region<|J.loud (Loud.alloc (cs:=[Value.string (ByteArray.mk #[]),Value.int .i64 (0:Int),Value.int .i64 (0:Int),Value.int .i64 (0:Int),Value.int .i64 (0:Int),Value.int .i64 (0:Int)]) rfl rfl) rfl fun b1=>J.done<|J.thenN<|J.seq<|J.region<|J.quiet (Y.move rfl) rfl<|J.quiet (Y.move rfl) rfl<|J.quiet (Y.move rfl) rfl<|J.quiet (Y.move rfl) rfl ?_
 refine J.quiet (Y.bld5 (r:=Value.agg #[Value.string (p0),Value.int .i64 (1:Int),Value.int .i64 (0:Int),Value.int .i64 (p1),Value.int .i64 (p2),Value.int .i64 (p3)]) rfl rfl rfl rfl rfl (by intro w;simp[Instr.build,Instr.fill,cells_intV,cells_boolV,cells_sliceV,cells_ptrV,cells_strV,cells_funcV,cells_agg])) rfl ?_
 refine J.storeAll 0 (vs:=[Value.string (p0),Value.int .i64 (1:Int),Value.int .i64 (0:Int),Value.int .i64 (p1),Value.int .i64 (p2),Value.int .i64 (p3)]) rfl rfl rfl rfl rfl rfl<|J.done<|J.thenN<|J.ret ?_
 obtain rfl:=Option.some.inj h
 exact J.retG1 (()) rfl rfl (RV.cell 0 rfl rfl rfl rfl) (SubM.nil) LentAll.nil
end Go.Proofs.YtdbcpliafeoghaaGreatDoor
end
section
namespace Go.Proofs.YtdbcpliafeoghaaGreatDoor
open Go.Sx
def m_ref23_Pointer (fuel:Nat) (p0:ByteArray):Option ((ByteArray×Int×Int×Int×Int×Int)):=
 some ((p0,(3:Int),(0:Int),(0:Int),(0:Int),(0:Int)))
theorem body83:HasBody Tryz.prog 83:=Tryz.call83
theorem t_ref23_Pointer (fuel:Nat) {p0:ByteArray} (r:(ByteArray×Int×Int×Int×Int×Int)) (h:m_ref23_Pointer fuel p0=some r):
  Meets Tryz.prog 83 #[Value.string (p0)] [] (fun x:Unit=>Value.agg #[Value.string (r.1),Value.int .i64 (r.2.1),Value.int .i64 (r.2.2.1),Value.int .i64 (r.2.2.2.1),Value.int .i64 (r.2.2.2.2.1),Value.int .i64 (r.2.2.2.2.2)]) (fun x l=>l) (fun _ l=>l):=by
 refine Meets.of (vs:=[Value.string (p0)]) Tryz.func83 rfl Tryz.ntmps83 rfl fun c=> ?_
 unfold m_ref23_Pointer at h
 refine J.seq<|J.region<|J.loud (Loud.alloc (cs:=[Value.string (ByteArray.mk #[]),Value.int .i64 (0:Int),Value.int .i64 (0:Int),Value.int .i64 (0:Int),Value.int .i64 (0:Int),Value.int .i64 (0:Int)]) rfl rfl) rfl fun b1=>J.done<|J.thenN<|J.seq<|J.region<|J.quiet (Y.move rfl) rfl ?_
 refine J.quiet (Y.bld2 (r:=Value.agg #[Value.string (p0),Value.int .i64 (3:Int),Value.int .i64 (0:Int),Value.int .i64 (0:Int),Value.int .i64 (0:Int),Value.int .i64 (0:Int)]) rfl rfl (by intro w;simp[Instr.build,Instr.fill,cells_intV,cells_boolV,cells_sliceV,cells_ptrV,cells_strV,cells_funcV,cells_agg])) rfl ?_
 refine J.storeAll 0 (vs:=[Value.string (p0),Value.int .i64 (3:Int),Value.int .i64 (0:Int),Value.int .i64 (0:Int),Value.int .i64 (0:Int),Value.int .i64 (0:Int)]) rfl rfl rfl rfl rfl rfl<|J.done<|J.thenN<|J.ret ?_
 obtain rfl:=Option.some.inj h
 exact J.retG1 (()) rfl rfl (RV.cell 0 rfl rfl rfl rfl) (SubM.nil) LentAll.nil
end Go.Proofs.YtdbcpliafeoghaaGreatDoor
end
section
namespace Go.Proofs.YtdbcpliafeoghaaGreatDoor
open Go.Sx
def m_ref23_Vars (fuel:Nat)  : Option ((List (ByteArray×Int×Int×Int×Int×Int))):=
 Option.bind (m_ref23_Number fuel (ByteArray.mk #[100]) (0:Int) (1:Int) (0:Int)) fun r1=>(Option.bind (m_ref23_Pointer fuel (ByteArray.mk #[112])) fun r4=>(some ([(r1.1,r1.2.1,r1.2.2.1,r1.2.2.2.1,r1.2.2.2.2.1,r1.2.2.2.2.2),(r4.1,r4.2.1,r4.2.2.1,r4.2.2.2.1,r4.2.2.2.2.1,r4.2.2.2.2.2)])))
theorem body47:HasBody Tryz.prog 47:=Tryz.call47
theorem t_ref23_Vars (fuel:Nat)  (r:(List (ByteArray×Int×Int×Int×Int×Int))) (h:m_ref23_Vars fuel  = some r):
  Meets Tryz.prog 47 #[] [] (fun x:Value=>x) (fun x l=>Ar EStI64I64I64I64I64p x r::l) (fun _ l=>l):=by
 refine Meets.of (vs:=[]) Tryz.func47 rfl Tryz.ntmps47 rfl fun c=> ?_
 unfold m_ref23_Vars at h
 refine J.seq<|J.region<|J.quiet (Y.assign rfl) rfl<|J.done<|J.thenN<|J.seq<|J.region ?_
 have h:=bnd h;obtain⟨r1,hr2,h⟩:=h
 refine J.loud (Loud.callL body20 (t_ref23_Number fuel  r1 hr2) rfl .nil (fun _ _=>rfl)) rfl fun x3=> ?_
 have h:=bnd h;obtain⟨r4,hr5,h⟩:=h
 refine J.loud (Loud.callL body83 (t_ref23_Pointer fuel  r4 hr5) rfl .nil (fun _ _=>rfl)) rfl fun x6=>J.loud (Loud.buildS (e:=EStI64I64I64I64I64p) ([((r1.1,r1.2.1,r1.2.2.1,r1.2.2.2.1,r1.2.2.2.2.1,r1.2.2.2.2.2)),((r4.1,r4.2.1,r4.2.2.1,r4.2.2.2.1,r4.2.2.2.2.1,r4.2.2.2.2.2))]) [(0,Value.agg #[Value.string (r1.1),Value.int .i64 (r1.2.1),Value.int .i64 (r1.2.2.1),Value.int .i64 (r1.2.2.2.1),Value.int .i64 (r1.2.2.2.2.1),Value.int .i64 (r1.2.2.2.2.2)]),(1,Value.agg #[Value.string (r4.1),Value.int .i64 (r4.2.1),Value.int .i64 (r4.2.2.1),Value.int .i64 (r4.2.2.2.1),Value.int .i64 (r4.2.2.2.2.1),Value.int .i64 (r4.2.2.2.2.2)])] rfl rfl rfl rfl (fill_2_6 (Value.string (r1.1)) (Value.int .i64 (r1.2.1)) (Value.int .i64 (r1.2.2.1)) (Value.int .i64 (r1.2.2.2.1)) (Value.int .i64 (r1.2.2.2.2.1)) (Value.int .i64 (r1.2.2.2.2.2)) (Value.string (r4.1)) (Value.int .i64 (r4.2.1)) (Value.int .i64 (r4.2.2.1)) (Value.int .i64 (r4.2.2.2.1)) (Value.int .i64 (r4.2.2.2.2.1)) (Value.int .i64 (r4.2.2.2.2.2))) rfl rfl rfl) rfl fun u7=>J.quiet (Y.assign rfl) rfl<|J.done<|J.thenN<|J.ret ?_
 obtain rfl:=Option.some.inj h
 exact J.retG1 (u7) rfl rfl (RV.tmp rfl) (SubM.refl _) LentAll.nil
end Go.Proofs.YtdbcpliafeoghaaGreatDoor
end
section
namespace Go.Proofs.YtdbcpliafeoghaaGreatDoor
open Go.Sx
def m_ref35_Vars (fuel:Nat)  : Option ((List (ByteArray×Int×Int×Int×Int×Int))):=
 Option.bind (m_ref23_Vars fuel) fun r1=>(Option.bind (m_ref23_Truth fuel (ByteArray.mk #[115])) fun r4=>(Option.bind (m_ref23_Truth fuel (ByteArray.mk #[98])) fun r7=>(ck ((List.length r1:Int)+(List.length ([(r4.1,r4.2.1,r4.2.2.1,r4.2.2.2.1,r4.2.2.2.2.1,r4.2.2.2.2.2),(r7.1,r7.2.1,r7.2.2.1,r7.2.2.2.1,r7.2.2.2.2.1,r7.2.2.2.2.2)]):Int)<=1099511627) (some (r1++([(r4.1,r4.2.1,r4.2.2.1,r4.2.2.2.1,r4.2.2.2.2.1,r4.2.2.2.2.2),(r7.1,r7.2.1,r7.2.2.1,r7.2.2.2.1,r7.2.2.2.2.1,r7.2.2.2.2.2)]))))))
theorem body19:HasBody Tryz.prog 19:=Tryz.call19
theorem t_ref35_Vars (fuel:Nat)  (r:(List (ByteArray×Int×Int×Int×Int×Int))) (h:m_ref35_Vars fuel  = some r):
  Meets Tryz.prog 19 #[] [] (fun x:Value=>x) (fun x l=>Ar EStI64I64I64I64I64p x r::l) (fun _ l=>l):=by
 refine Meets.of (vs:=[]) Tryz.func19 rfl Tryz.ntmps19 rfl fun c=> ?_
 unfold m_ref35_Vars at h
 refine J.seq<|J.region<|J.quiet (Y.assign rfl) rfl<|J.done<|J.thenN<|J.seq<|J.region ?_
 have h:=bnd h;obtain⟨r1,hr2,h⟩:=h
 refine J.loud (Loud.callL body47 (t_ref23_Vars fuel  r1 hr2) rfl .nil (fun _ _=>rfl)) rfl fun x3=> ?_
 have h:=bnd h;obtain⟨r4,hr5,h⟩:=h
 refine J.loud (Loud.callL body21 (t_ref23_Truth fuel  r4 hr5) rfl .nil (fun _ _=>rfl)) rfl fun x6=> ?_
 have h:=bnd h;obtain⟨r7,hr8,h⟩:=h
 refine J.loud (Loud.callL body21 (t_ref23_Truth fuel  r7 hr8) rfl .nil (fun _ _=>rfl)) rfl fun x9=>J.loud (Loud.buildS (e:=EStI64I64I64I64I64p) ([((r4.1,r4.2.1,r4.2.2.1,r4.2.2.2.1,r4.2.2.2.2.1,r4.2.2.2.2.2)),((r7.1,r7.2.1,r7.2.2.1,r7.2.2.2.1,r7.2.2.2.2.1,r7.2.2.2.2.2))]) [(0,Value.agg #[Value.string (r4.1),Value.int .i64 (r4.2.1),Value.int .i64 (r4.2.2.1),Value.int .i64 (r4.2.2.2.1),Value.int .i64 (r4.2.2.2.2.1),Value.int .i64 (r4.2.2.2.2.2)]),(1,Value.agg #[Value.string (r7.1),Value.int .i64 (r7.2.1),Value.int .i64 (r7.2.2.1),Value.int .i64 (r7.2.2.2.1),Value.int .i64 (r7.2.2.2.2.1),Value.int .i64 (r7.2.2.2.2.2)])] rfl rfl rfl rfl (fill_2_6 (Value.string (r4.1)) (Value.int .i64 (r4.2.1)) (Value.int .i64 (r4.2.2.1)) (Value.int .i64 (r4.2.2.2.1)) (Value.int .i64 (r4.2.2.2.2.1)) (Value.int .i64 (r4.2.2.2.2.2)) (Value.string (r7.1)) (Value.int .i64 (r7.2.1)) (Value.int .i64 (r7.2.2.1)) (Value.int .i64 (r7.2.2.2.1)) (Value.int .i64 (r7.2.2.2.2.1)) (Value.int .i64 (r7.2.2.2.2.2))) rfl rfl rfl) rfl fun u10=> ?_
 have h:=ck_some h;obtain⟨hc12,h⟩:=h
 refine J.loud (Loud.appendL 1 FStI64I64I64I64I64p rfl rfl rfl (Lent.ar (Lent.res 0 rfl) FStI64I64I64I64I64p) rfl rfl rfl rfl hc12 rfl) rfl fun u11=>J.quiet (Y.assign rfl) rfl<|J.done<|J.thenN<|J.ret ?_
 obtain rfl:=Option.some.inj h
 exact J.retG1 (u11) rfl rfl (RV.tmp rfl) (SubM.cons 1 rfl (SubM.nil)) LentAll.nil
end Go.Proofs.YtdbcpliafeoghaaGreatDoor
end
section
namespace Go.Proofs.YtdbcpliafeoghaaGreatDoor
open Go.Sx
def m_ref37_Vars (fuel:Nat)  : Option ((List (ByteArray×Int×Int×Int×Int×Int))):=
 Option.bind (m_ref35_Vars fuel) fun r1=>(Option.bind (m_ref23_Number fuel (ByteArray.mk #[120]) (15:Int) (0:Int) (0:Int)) fun r4=>(Option.bind (m_ref23_Number fuel (ByteArray.mk #[97]) (0:Int) (15:Int) (0:Int)) fun r7=>(ck ((List.length r1:Int)+(List.length ([(r4.1,r4.2.1,r4.2.2.1,r4.2.2.2.1,r4.2.2.2.2.1,r4.2.2.2.2.2),(r7.1,r7.2.1,r7.2.2.1,r7.2.2.2.1,r7.2.2.2.2.1,r7.2.2.2.2.2)]):Int)<=1099511627) (some (r1++([(r4.1,r4.2.1,r4.2.2.1,r4.2.2.2.1,r4.2.2.2.2.1,r4.2.2.2.2.2),(r7.1,r7.2.1,r7.2.2.1,r7.2.2.2.1,r7.2.2.2.2.1,r7.2.2.2.2.2)]))))))
theorem body12:HasBody Tryz.prog 12:=Tryz.call12
theorem t_ref37_Vars (fuel:Nat)  (r:(List (ByteArray×Int×Int×Int×Int×Int))) (h:m_ref37_Vars fuel  = some r):
  Meets Tryz.prog 12 #[] [] (fun x:Value=>x) (fun x l=>Ar EStI64I64I64I64I64p x r::l) (fun _ l=>l):=by
 refine Meets.of (vs:=[]) Tryz.func12 rfl Tryz.ntmps12 rfl fun c=> ?_
 unfold m_ref37_Vars at h
 refine J.seq<|J.region<|J.quiet (Y.assign rfl) rfl<|J.done<|J.thenN<|J.seq<|J.region ?_
 have h:=bnd h;obtain⟨r1,hr2,h⟩:=h
 refine J.loud (Loud.callL body19 (t_ref35_Vars fuel  r1 hr2) rfl .nil (fun _ _=>rfl)) rfl fun x3=> ?_
 have h:=bnd h;obtain⟨r4,hr5,h⟩:=h
 refine J.loud (Loud.callL body20 (t_ref23_Number fuel  r4 hr5) rfl .nil (fun _ _=>rfl)) rfl fun x6=> ?_
 have h:=bnd h;obtain⟨r7,hr8,h⟩:=h
 refine J.loud (Loud.callL body20 (t_ref23_Number fuel  r7 hr8) rfl .nil (fun _ _=>rfl)) rfl fun x9=>J.loud (Loud.buildS (e:=EStI64I64I64I64I64p) ([((r4.1,r4.2.1,r4.2.2.1,r4.2.2.2.1,r4.2.2.2.2.1,r4.2.2.2.2.2)),((r7.1,r7.2.1,r7.2.2.1,r7.2.2.2.1,r7.2.2.2.2.1,r7.2.2.2.2.2))]) [(0,Value.agg #[Value.string (r4.1),Value.int .i64 (r4.2.1),Value.int .i64 (r4.2.2.1),Value.int .i64 (r4.2.2.2.1),Value.int .i64 (r4.2.2.2.2.1),Value.int .i64 (r4.2.2.2.2.2)]),(1,Value.agg #[Value.string (r7.1),Value.int .i64 (r7.2.1),Value.int .i64 (r7.2.2.1),Value.int .i64 (r7.2.2.2.1),Value.int .i64 (r7.2.2.2.2.1),Value.int .i64 (r7.2.2.2.2.2)])] rfl rfl rfl rfl (fill_2_6 (Value.string (r4.1)) (Value.int .i64 (r4.2.1)) (Value.int .i64 (r4.2.2.1)) (Value.int .i64 (r4.2.2.2.1)) (Value.int .i64 (r4.2.2.2.2.1)) (Value.int .i64 (r4.2.2.2.2.2)) (Value.string (r7.1)) (Value.int .i64 (r7.2.1)) (Value.int .i64 (r7.2.2.1)) (Value.int .i64 (r7.2.2.2.1)) (Value.int .i64 (r7.2.2.2.2.1)) (Value.int .i64 (r7.2.2.2.2.2))) rfl rfl rfl) rfl fun u10=> ?_
 have h:=ck_some h;obtain⟨hc12,h⟩:=h
 refine J.loud (Loud.appendL 1 FStI64I64I64I64I64p rfl rfl rfl (Lent.ar (Lent.res 0 rfl) FStI64I64I64I64I64p) rfl rfl rfl rfl hc12 rfl) rfl fun u11=>J.quiet (Y.assign rfl) rfl<|J.done<|J.thenN<|J.ret ?_
 obtain rfl:=Option.some.inj h
 exact J.retG1 (u11) rfl rfl (RV.tmp rfl) (SubM.cons 1 rfl (SubM.nil)) LentAll.nil
end Go.Proofs.YtdbcpliafeoghaaGreatDoor
end
section
namespace Go.Proofs.YtdbcpliafeoghaaGreatDoor
open Go Go.Sx Go.Gx
set_option maxRecDepth 100000
def m_law37_known (fuel:Nat):Option (Bool):=some (true)
theorem body13:HasBody Tryz.prog 13:=Tryz.call13
theorem closed13:okT (callR rtab gp2 4000 13 [] H0)=true:=by kernel_rfl
theorem t_law37_known (fuel:Nat) (r:Bool) (h:m_law37_known fuel=some r):
  Meets Tryz.prog 13 #[] [Gb 0 (cellsOf EU8 tab0)] (fun x:Unit=>Value.bool (r)) (fun x l=>l) (fun _ l=>l):=by
 obtain rfl:=Option.some.inj h
 obtain⟨H',h1⟩:=okT_spec closed13
 rw[callR_eq rtab_ok]at h1
 exact meets_closed glsOne body13 (fun ρ V' h=>h.bool_inv) fun T b=>callF_ok (gs:=gl T) gok2 h1 (Rel.start b rfl) .nil
end Go.Proofs.YtdbcpliafeoghaaGreatDoor
end
section
namespace Go.Proofs.YtdbcpliafeoghaaGreatDoor
open Go.Sx
def m_ref37_Text (fuel:Nat)  : Option (ByteArray):=
 some (ByteArray.mk #[112,114,111,103,114,97,109,32,115,110,97,112,115,104,111,116,59,10,118,97,114,32,100,32,58,32,48,32,46,46,32,110,59,10,118,97,114,32,112,32,58,32,112,111,114,116,59,10,118,97,114,32,115,32,58,32,98,111,111,108,59,10,118,97,114,32,98,32,58,32,98,111,111,108,59,10,118,97,114,32,120,32,58,32,48,32,46,46,32,49,53,59,10,118,97,114,32,97,32,58,32,48,32,46,46,32,49,53,32,42,32,110,59,10,114,117,108,101,32,116,111,112,58,32,114,111,111,116,32,38,38,32,40,100,32,33,61,32,48,32,124,124,32,112,32,33,61,32,110,111,110,101,41,32,45,62,32,100,32,58,61,32,48,44,32,112,32,58,61,32,110,111,110,101,59,10,114,117,108,101,32,108,111,119,58,32,33,114,111,111,116,32,38,38,32,40,100,32,33,61,32,40,109,105,110,40,113,46,100,41,32,60,32,110,32,63,32,109,105,110,40,113,46,100,41,32,43,32,49,32,58,32,110,41,32,124,124,32,112,32,33,61,32,102,105,114,115,116,40,113,46,100,32,61,61,32,109,105,110,40,113,46,100,41,41,41,10,32,32,45,62,32,100,32,58,61,32,40,109,105,110,40,113,46,100,41,32,60,32,110,32,63,32,109,105,110,40,113,46,100,41,32,43,32,49,32,58,32,110,41,44,32,112,32,58,61,32,102,105,114,115,116,40,113,46,100,32,61,61,32,109,105,110,40,113,46,100,41,41,59,10,114,117,108,101,32,98,101,103,105,110,58,32,114,111,111,116,32,38,38,32,33,115,32,45,62,32,115,32,58,61,32,116,114,117,101,44,32,98,32,58,61,32,33,98,59,10,114,117,108,101,32,116,97,107,101,58,32,33,114,111,111,116,32,38,38,32,115,111,109,101,40,113,32,61,61,32,112,32,38,38,32,40,113,46,98,32,33,61,32,98,32,124,124,32,115,32,38,38,32,33,113,46,115,41,41,32,45,62,32,115,32,58,61,32,115,111,109,101,40,113,32,61,61,32,112,32,38,38,32,113,46,115,41,44,32,98,32,58,61,32,115,111,109,101,40,113,32,61,61,32,112,32,38,38,32,113,46,98,41,59,10,114,117,108,101,32,102,105,110,105,115,104,58,32,115,32,38,38,32,97,108,108,40,113,46,112,32,33,61,32,113,46,98,97,99,107,32,124,124,32,33,113,46,115,32,38,38,32,113,46,98,32,61,61,32,98,41,32,45,62,32,115,32,58,61,32,102,97,108,115,101,44,32,97,32,58,61,32,120,32,43,32,115,117,109,40,113,46,112,32,61,61,32,113,46,98,97,99,107,32,63,32,113,46,97,32,58,32,48,41,59,10])
theorem body14:HasBody Tryz.prog 14:=Tryz.call14
theorem t_ref37_Text (fuel:Nat)  (r:ByteArray) (h:m_ref37_Text fuel  = some r):
  Meets Tryz.prog 14 #[] [] (fun x:Unit=>Value.string (r)) (fun x l=>l) (fun _ l=>l):=by
 refine Meets.of (vs:=[]) Tryz.func14 rfl Tryz.ntmps14 rfl fun c=> ?_
 unfold m_ref37_Text at h
 refine J.seq<|J.region<|J.quiet (Y.assign rfl) rfl<|J.done<|J.thenN<|J.seq<|J.region<|J.quiet (Y.assign rfl) rfl<|J.done<|J.thenN<|J.ret ?_
 obtain rfl:=Option.some.inj h
 exact J.retG1 (()) rfl rfl (RV.tmp rfl) (SubM.refl _) LentAll.nil
end Go.Proofs.YtdbcpliafeoghaaGreatDoor
end
section
namespace Go.Proofs.YtdbcpliafeoghaaGreatDoor
open Go.Sx
def law37_SnapshotText_k2  (a24:Bool):Option (Bool):=
 some (a24)
def law37_SnapshotText_k1 (fuel:Nat) (p0:Int) (r4:ByteArray×List (ByteArray×Int×Int×Int×Int×Int)×Int×Int) (r10:(List (ByteArray×Int×Int×Int×Int×Int))) (a14:Bool):Option (Bool):=
 if a14=true then(some (false))else(Option.bind (m_world_Within fuel p0 (List.length r10:Int)) fun r17=>(ck (0<=r17∧r17<(List.length r4.2.1:Int)) (ck (0<=r17∧r17<(List.length r10:Int)) (if(((at' r4.2.1 r17).1),((at' r4.2.1 r17).2.1),((at' r4.2.1 r17).2.2.1),((at' r4.2.1 r17).2.2.2.1),((at' r4.2.1 r17).2.2.2.2.1),((at' r4.2.1 r17).2.2.2.2.2))≠(((at' r10 r17).1),((at' r10 r17).2.1),((at' r10 r17).2.2.1),((at' r10 r17).2.2.2.1),((at' r10 r17).2.2.2.2.1),((at' r10 r17).2.2.2.2.2))then(some (false))else(Option.bind (m_law37_known fuel) fun r26=>(if r26=true then(Option.bind (m_snapshot_Text fuel) fun r30=>(Option.bind (m_ref37_Text fuel) fun r33=>(if(bEq r30 r33)=true then(law37_SnapshotText_k2  ((bEq r4.1 (ByteArray.mk #[115,110,97,112,115,104,111,116]))))else(law37_SnapshotText_k2  (false)))))else(law37_SnapshotText_k2  (false))))))))
def m_law37_SnapshotText (fuel:Nat) (p0:Int):Option (Bool):=
 Option.bind (m_snapshot_Text fuel) fun r1=>(Option.bind (m_program_Parse fuel r1) fun r4=>(Option.bind (m_ref37_Vars fuel) fun r10=>(if r4.2.2.2≠(0:Int)then(law37_SnapshotText_k1 fuel p0 r4 r10 (true))else(if r4.2.2.1≠(0:Int)then(law37_SnapshotText_k1 fuel p0 r4 r10 (true))else(law37_SnapshotText_k1 fuel p0 r4 r10 (decide ((List.length r4.2.1:Int)≠(List.length r10:Int))))))))
theorem t_law37_SnapshotText (fuel:Nat) {p0:Int} (r:Bool) (h:m_law37_SnapshotText fuel p0=some r):
  Meets Tryz.prog 4 #[Value.int .i64 (p0)] [Gb 0 (cellsOf EU8 tab0)] (fun x:Unit=>Value.bool (r)) (fun x l=>l) (fun _ l=>l):=by
 refine Meets.of (vs:=[Value.int .i64 (p0)]) Tryz.func4 rfl Tryz.ntmps4 rfl fun c=> ?_
 unfold m_law37_SnapshotText at h
 refine J.seq<|J.region<|J.quiet (Y.assign rfl) rfl<|J.done<|J.thenN<|J.seq<|J.region ?_
 have h:=bnd h;obtain⟨r1,hr2,h⟩:=h
 refine J.loud (Loud.callL body11 (t_snapshot_Text fuel  r1 hr2) rfl .nil (fun _ _=>rfl)) rfl fun x3=> ?_
 have h:=bnd h;obtain⟨r4,hr5,h⟩:=h
 refine J.loud (Loud.call body5 (t_program_Parse fuel r4 hr5) rfl (SubL.cons (List.mem_of_getElem? (i:=0) rfl) (SubL.nil)) (fun _ _=>rfl) (fun _ _=>rfl)) rfl fun x6=>J.quiet (Y.move rfl) rfl<|J.quiet (Y.extract rfl rfl) rfl<|J.quiet (Y.extract rfl rfl) rfl<|J.quiet (Y.extract rfl rfl) rfl<|J.loud (Loud.alloc (cs:=[Value.string (ByteArray.mk #[]),Value.slice none 0 0,Value.slice none 0 0]) rfl rfl) rfl fun b7=>J.know (Know.one ((Lent.fact 0 rfl))) fun ho8=>J.know (Know.onef 1 rfl) fun ho9=>J.storeAll 0 (vs:=[Value.string (r4.1),x6.1,x6.2]) rfl rfl (all1 rfl (all1 ho8 (all1 ho9 rfl))) rfl rfl rfl<|J.quiet (Y.assign rfl) rfl<|J.quiet (Y.assign rfl) rfl<|J.done<|J.thenN<|J.seq<|J.region ?_
 have h:=bnd h;obtain⟨r10,hr11,h⟩:=h
 refine J.loud (Loud.callL body12 (t_ref37_Vars fuel  r10 hr11) rfl .nil (fun _ _=>rfl)) rfl fun x12=>J.quiet (Y.assign rfl) rfl<|J.done<|J.thenN<|J.seq<|J.seq<|J.midI (A:=Bool) (B:=Unit) (fun a14=>law37_SnapshotText_k1 fuel p0 r4 r10 a14=some r) (fun a14 b15=>[(0,Value.int .i64 (p0)),(3,Value.pointer (some ⟨b7,0,none⟩)),(6,x12),(27,Value.bool (a14))]) (fun a14 b15=>[Ar EStI64I64I64I64I64p x12 r10,Blk b7 [Value.string (r4.1),x6.1,x6.2] 25]) (fun a14 b15=>[Sl RStI64I64I64I64I64p x6.1 r4.2.1,Onef x6.2,Gb 0 (cellsOf EU8 tab0)]) ?_ ?_
 ·refine J.region<|J.quiet (Y.move rfl) rfl<|J.quiet (Y.neq rfl rfl) rfl<|J.quiet (Y.move rfl) rfl ?_
  refine J.guardD (by exact rfl) (by exact rfl) (fun hp37=> ?_) (fun hp37=> ?_)
  ·have h:=ifP hp37 h
   refine J.guardN rfl rfl rfl<|J.guardN rfl rfl rfl<|J.quiet (Y.pickT rfl rfl) rfl<|J.quiet (Y.move rfl) rfl<|J.guardN rfl rfl rfl<|J.guardN rfl rfl rfl<|J.guardN rfl rfl rfl<|J.guardN rfl rfl rfl<|J.guardN rfl rfl rfl<|J.guardN rfl rfl rfl<|J.quiet (Y.pickT rfl rfl) rfl<|J.done<|J.thenN ?_
   exact J.meetI (true) (()) h SF (SubM.refl _) (LentAll.refl _ _)
  ·have h:=ifN hp37 h
   refine J.guardY rfl (Y.move rfl) rfl<|J.guardY rfl (Y.neq rfl rfl) rfl<|J.quiet (Y.pickF rfl rfl) rfl<|J.quiet (Y.move rfl) rfl ?_
   refine J.guardD (by exact rfl) (by exact rfl) (fun hp38=> ?_) (fun hp38=> ?_)
   ·have h:=ifP hp38 h
    refine J.guardN rfl rfl rfl<|J.guardN rfl rfl rfl<|J.guardN rfl rfl rfl<|J.guardN rfl rfl rfl<|J.guardN rfl rfl rfl<|J.guardN rfl rfl rfl<|J.quiet (Y.pickT rfl rfl) rfl<|J.done<|J.thenN ?_
    exact J.meetI (true) (()) h SF (SubM.refl _) (LentAll.refl _ _)
   ·have h:=ifN hp38 h
    refine J.guardY rfl (Y.fieldB rfl rfl rfl rfl rfl) rfl<|J.guardY rfl (Y.loadB 1 rfl rfl rfl rfl rfl) rfl<|J.guardY rfl (Y.lenS rfl (Lent.fact 0 rfl) rfl) rfl<|J.guardY rfl (Y.move rfl) rfl<|J.guardY rfl (Y.lenS rfl (Lent.ar (Lent.res 0 rfl) FStI64I64I64I64I64p) rfl) rfl<|J.guardY rfl (Y.neq rfl rfl) rfl<|J.quiet (Y.pickF rfl rfl) rfl<|J.done<|J.thenN ?_
    exact J.meetI (decide ((List.length r4.2.1:Int)≠(List.length r10:Int))) (()) h SF (SubM.refl _) (LentAll.refl _ _)
 ·clear h
  intro a14 b15 h
  unfold law37_SnapshotText_k1 at h
  refine J.cond (by exact rfl) (fun hp16=> ?_) (fun hp16=> ?_)
  ·have h:=ifP hp16 h
   refine J.seq<|J.region<|J.quiet (Y.assign rfl) rfl<|J.done<|J.thenN<|J.ret<|J.thenR ?_
   obtain rfl:=Option.some.inj h
   exact J.retG1 (()) rfl rfl (RV.tmp rfl) (SubM.nil) LentAll.nil
  ·have h:=ifBN hp16 h
   refine J.skip<|J.thenN<|J.seq<|J.region<|J.quiet (Y.move rfl) rfl<|J.quiet (Y.move rfl) rfl<|J.quiet (Y.lenS rfl (Lent.ar (Lent.res 0 rfl) FStI64I64I64I64I64p) rfl) rfl ?_
   have h:=bnd h;obtain⟨r17,hr18,h⟩:=h
   refine J.loud (Loud.callL body8 (t_world_Within fuel  r17 hr18) rfl .nil (fun _ _=>rfl)) rfl fun x19=>J.quiet (Y.assign rfl) rfl<|J.done<|J.thenN<|J.seq<|J.seq ?_
   refine JR.start [0,1,0,7,15,0,0,96,224,511] 9 mixedOrders (by decide +kernel) ?_
   refine JR.open (by exact rfl) ?_
   refine JR.qt rfl (SubM.nil) (SubL.nil) (Y.fieldB rfl rfl rfl rfl rfl) HistOk.z<|JR.qt rfl (SubM.cons 1 rfl (SubM.nil)) (SubL.nil) (Y.loadB 0 rfl rfl rfl rfl rfl) HistOk.z<|JR.qt rfl (SubM.nil) (SubL.nil) (Y.move rfl) HistOk.z ?_
   have h:=ck_some h;obtain⟨hc20,h⟩:=h
   refine JR.qt rfl (SubM.nil) (SubL.cons (List.mem_of_getElem? (i:=0) rfl) (SubL.nil)) (Y.indexS rfl rfl (Lent.fact 0 rfl) rfl rfl hc20) HistOk.z<|JR.qt rfl (SubM.nil) (SubL.cons (List.mem_of_getElem? (i:=0) rfl) (SubL.nil)) (Y.loadAggS (cs:=[Value.string ((at' r4.2.1 r17).1),Value.int .i64 ((at' r4.2.1 r17).2.1),Value.int .i64 ((at' r4.2.1 r17).2.2.1),Value.int .i64 ((at' r4.2.1 r17).2.2.2.1),Value.int .i64 ((at' r4.2.1 r17).2.2.2.2.1),Value.int .i64 ((at' r4.2.1 r17).2.2.2.2.2)]) rfl (Lent.fact 0 rfl) FStI64I64I64I64I64p rfl rfl rfl rfl hc20) HistOk.z<|JR.qt rfl (SubM.nil) (SubL.nil) (Y.move rfl) HistOk.z<|JR.qt rfl (SubM.nil) (SubL.nil) (Y.move rfl) HistOk.z ?_
   have h:=ck_some h;obtain⟨hc21,h⟩:=h
   refine JR.qt rfl (SubM.cons 0 rfl (SubM.nil)) (SubL.nil) (Y.indexS rfl rfl (Lent.ar (Lent.res 0 rfl) FStI64I64I64I64I64p) rfl rfl hc21) HistOk.z<|JR.qt rfl (SubM.cons 0 rfl (SubM.nil)) (SubL.nil) (Y.loadAggS (cs:=[Value.string ((at' r10 r17).1),Value.int .i64 ((at' r10 r17).2.1),Value.int .i64 ((at' r10 r17).2.2.1),Value.int .i64 ((at' r10 r17).2.2.2.1),Value.int .i64 ((at' r10 r17).2.2.2.2.1),Value.int .i64 ((at' r10 r17).2.2.2.2.2)]) rfl (Lent.ar (Lent.res 0 rfl) FStI64I64I64I64I64p) FStI64I64I64I64I64p rfl rfl rfl rfl hc21) HistOk.z<|JR.tailD 9 rfl rfl<|J.quiet (Y.eqAN rfl rfl (eq_T33N (((at' r4.2.1 r17).1),((at' r4.2.1 r17).2.1),((at' r4.2.1 r17).2.2.1),((at' r4.2.1 r17).2.2.2.1),((at' r4.2.1 r17).2.2.2.2.1),((at' r4.2.1 r17).2.2.2.2.2)) (((at' r10 r17).1),((at' r10 r17).2.1),((at' r10 r17).2.2.1),((at' r10 r17).2.2.2.1),((at' r10 r17).2.2.2.2.1),((at' r10 r17).2.2.2.2.2)) _ _)) rfl<|J.done<|J.thenN ?_
   refine J.condD (by exact rfl) (fun hp22=> ?_) (fun hp22=> ?_)
   ·have h:=ifP hp22 h
    refine J.seq<|J.region<|J.quiet (Y.assign rfl) rfl<|J.done<|J.thenN<|J.ret<|J.thenR ?_
    obtain rfl:=Option.some.inj h
    exact J.retG1 (()) rfl rfl (RV.tmp rfl) (SubM.nil) LentAll.nil
   ·have h:=ifN hp22 h
    refine J.skip<|J.thenN<|J.seq<|J.midI (A:=Bool) (B:=Unit) (fun a24=>law37_SnapshotText_k2  a24=some r) (fun a24 b25=>[(2,Value.bool (a24))]) (fun a24 b25=>[]) (fun a24 b25=>[Sl RStI64I64I64I64I64p x6.1 r4.2.1,Onef x6.2,Gb 0 (cellsOf EU8 tab0)]) ?_ ?_
    ·refine J.region ?_
     have h:=bnd h;obtain⟨r26,hr27,h⟩:=h
     refine J.loud (Loud.callL body13 (t_law37_known fuel  r26 hr27) rfl (LentAll.cons (Lent.fact 2 rfl) .nil) (fun _ _=>rfl)) rfl fun x28=>J.quiet (Y.move rfl) rfl ?_
     refine J.guard (by exact rfl) (by exact rfl) (fun hp29=> ?_) (fun hp29=> ?_)
     ·have h:=ifP hp29 h
      have h:=bnd h;obtain⟨r30,hr31,h⟩:=h
      refine J.loudG rfl (Loud.callL body11 (t_snapshot_Text fuel  r30 hr31) rfl .nil (fun _ _=>rfl)) rfl fun x32=> ?_
      have h:=bnd h;obtain⟨r33,hr34,h⟩:=h
      refine J.loudG rfl (Loud.callL body14 (t_ref37_Text fuel  r33 hr34) rfl .nil (fun _ _=>rfl)) rfl fun x35=>J.guardY rfl (Y.eqlS rfl rfl) rfl<|J.quiet (Y.pickT rfl rfl) rfl<|J.quiet (Y.move rfl) rfl ?_
      refine J.guard (by exact rfl) (by exact rfl) (fun hp36=> ?_) (fun hp36=> ?_)
      ·have h:=ifP hp36 h
       refine J.guardY rfl (Y.fieldB rfl rfl rfl rfl rfl) rfl<|J.guardY rfl (Y.loadB 1 rfl rfl rfl rfl rfl) rfl<|J.guardY rfl (Y.eqlS rfl rfl) rfl<|J.quiet (Y.pickT rfl rfl) rfl<|J.quiet (Y.assign rfl) rfl<|J.done<|J.thenN ?_
       exact J.meetI ((bEq r4.1 (ByteArray.mk #[115,110,97,112,115,104,111,116]))) (()) h SF (SubM.nil) (LentAll.refl _ _)
      ·have h:=ifBN hp36 h
       refine J.guardN rfl rfl rfl<|J.guardN rfl rfl rfl<|J.guardN rfl rfl rfl<|J.quiet (Y.pickF rfl rfl) rfl<|J.quiet (Y.assign rfl) rfl<|J.done<|J.thenN ?_
       exact J.meetI (false) (()) h SF (SubM.nil) (LentAll.refl _ _)
     ·have h:=ifBN hp29 h
      refine J.guardN rfl rfl rfl<|J.guardN rfl rfl rfl<|J.guardN rfl rfl rfl<|J.quiet (Y.pickF rfl rfl) rfl<|J.quiet (Y.move rfl) rfl<|J.guardN rfl rfl rfl<|J.guardN rfl rfl rfl<|J.guardN rfl rfl rfl<|J.quiet (Y.pickF rfl rfl) rfl<|J.quiet (Y.assign rfl) rfl<|J.done<|J.thenN ?_
      exact J.meetI (false) (()) h SF (SubM.nil) (LentAll.refl _ _)
    ·clear h
     intro a24 b25 h
     unfold law37_SnapshotText_k2 at h
     refine J.ret ?_
     obtain rfl:=Option.some.inj h
     exact J.retG1 (()) rfl rfl (RV.tmp rfl) (SubM.refl _) LentAll.nil
end Go.Proofs.YtdbcpliafeoghaaGreatDoor
end
section
namespace Go.Proofs.YtdbcpliafeoghaaGreatDoor
open Go Go.Sx
theorem within6 (v:Int):∃r,m_world_Within 1000 v 6=some r∧0<=r∧r<6:=by
 unfold m_world_Within world_Within_k1
 rw[if_neg (by omega),ckT (by omega)]
 have hm:=Int.tmod_eq_emod (a:=v) (b:=6)
 by_cases h:Int.tmod v 6<0
 ·rw[if_pos h,wr (by split at hm<;>omega) (by omega)]
  exact⟨_,rfl,by split at hm<;>omega,by omega⟩
 ·rw[if_neg h]
  exact⟨_,rfl,by omega,by split at hm<;>omega⟩
set_option maxRecDepth 100000 in
theorem snapshotText_pure (p0:Int):m_law37_SnapshotText 1000 p0=some true:=by
 obtain⟨q,h1,h2,h3⟩:=within6 p0
 have hk:m_law37_known 1000=some true:=rfl
 have e1:m_snapshot_Text 1000=some ptext:=rfl
 obtain⟨nm,e2,e6⟩:∃nm,m_program_Parse 1000 ptext=some (nm,pvars,0,0)∧bEq nm (ByteArray.mk #[115,110,97,112,115,104,111,116])=true:=⟨_,if_pos rfl,by kernel_rfl⟩
 have e3:m_ref37_Vars 1000=some pvars:=rfl
 have e4:m_ref37_Text 1000=some ptext:=rfl
 have e5:bEq ptext ptext=true:=by unfold bEq;simp
 have hl:(List.length pvars:Int)=6:=rfl
 unfold m_law37_SnapshotText law37_SnapshotText_k1
 rw[e1,bindS rfl,e2,bindS rfl,e3,bindS rfl]
 dsimp only
 rw[if_neg (by simp),if_neg (by simp),if_neg (by simp),hl,h1,bindS rfl,ckT ⟨h2,h3⟩,ckT ⟨h2,h3⟩,if_neg (by simp),hk,bindS rfl,if_pos rfl,e4,bindS rfl,bindS rfl,if_pos e5]
 unfold law37_SnapshotText_k2
 rw[e6]
end Go.Proofs.YtdbcpliafeoghaaGreatDoor
end
section
set_option maxRecDepth 100000
namespace Go.Sx
open Go.RowKit Go.ChangeShapes Go.WideShapes Go.ChangeAt Go.Proofs Go.Joins
theorem gb_of_laid {P:Program} {W:World} {n:String} {b m t t':Nat} {k:IntKind} {xs:List Int} (h:laidMet P [(n,.agg (xs.map fun x=> .lit (.int k x)))] W) (hg:P.globalNamed n=some b)
  (ht:(P.globals[b]?).map (·.type)=some t) (hu:P.underlying t=some (.array m t')) (hu':P.underlying t'=some (.int k)) (hc:P.cellsOf t'=1) (hcm:P.cellsOf t=m) (hm:0<m):(Gb b (cellsOf (Enc.int k) xs)).p W (fun _=>True):=by
 obtain⟨ps,⟨g,t2,cs,fuel,p,q,e1,e2,e3,e4,e5,e6⟩,hnd,hcell⟩:=h
 rw[hg]at e1;cases e1
 rw[ht]at e2;cases e2
 refine⟨trivial,?_⟩
 obtain⟨ys,ml,_,e7,hl,hyl,hf⟩:=DataW.trod_array hu e4
 simp only[Prod.mk.injEq,DataW.agg.injEq]at e7
 have hlen:xs.length=m:=by rw[<-hyl];simpa using congrArg List.length e7.1
 have hcl:cs.size=m:=by rw[<-hcm,<-hl];simp
 have hcs:cs.toList=cellsOf (Enc.int k) xs:=by
  refine List.ext_getElem? fun i=> ?_
  by_cases hi:i<m
  ·have h1:=hf i hi
   rw[hc,Nat.mul_one]at h1
   have hx:xs[i]? = some (xs[i]'(by omega)):=List.getElem?_eq_getElem _
   have h2:=cellsOf_get (Enc.int k) xs i _ hx 0 _ rfl
   rw[show i*(Enc.int k).sz+0=i from Nat.mul_one i]at h2
   rw[h2]
   have hy:ys[i]? = some (ys[i]'(by omega)):=List.getElem?_eq_getElem _
   rw[hy]at h1
   obtain⟨z,hz,hz2,_⟩:=DataW.trod_int hu' h1
   have hc0:cs.toList[i]? = some (.int k z):=by
    have:=congrArg (·[0]?) hz
    simpa [List.getElem?_take,List.getElem?_drop]using this
   rw[hc0]
   have h3:=congrArg (·[i]?) e7.1
   simp only[List.getElem?_map,hx,hy,Option.map_some,Option.some.injEq]at h3
   rw[hz2]at h3
   have h4:xs[i]=z:=by simpa using h3
   rw[h4]
  ·rw[List.getElem?_eq_none (by simp;omega),List.getElem?_eq_none (by rw[cellsOf_length,hlen];show m*1<=i;omega)]
 have hmem:MemPlace.cell b 0∈ps:=by
  rw[e6]
  refine List.mem_append_left _ (List.mem_append_left _ ?_)
  exact List.mem_map.2 ⟨0,by simp;omega,rfl⟩
 obtain⟨⟨c,T,hb⟩,_⟩:=hcell b 0 hmem
 refine⟨T,?_⟩
 have h5:c=cs:=by
  have h6:(W.var? P n)=some c:=by unfold World.var?;rw[hg];simp[hb]
  rw[h6]at e3;exact Option.some.inj e3
 rw[hb,h5,<-hcs]
theorem law_liftedL {H:Type} {enc:TypeId×Value->H} {os:Os} (ld:List (String×DataW Unit)) (hpl:(ld.all fun x=>x.2.handleName?.isNone)=true) (started:os.Started) {f:FuncId} {fn:Func} {s:ChangeSpec} {r:Bool} (hfn:Tryz.prog.funcs[f]? = some fn) (noInit:Tryz.prog.inits.idxOf? f=none)
  (hread:(fn.params.toList.all fun t=>Tryz.prog.readableRec t&&decide (t<Tryz.prog.types.size))=true) (hres:fn.resultTypes = #[4]) (hvars:s.vars=[])
  (hspec:∀ds:List (DataW H),ds.length=fn.params.toList.length->s.fn H ds={results:=[.lit (.bool true)],args:=ds})
  (witness:∃(w:World) (tape:Tape) (i:Input),w.os=os∧(w.forCall tape i).Shaped Tryz.prog∧i.vars=[]∧Input.okWide Tryz.prog (w.forCall tape i) .any w.heap.size f i∧
   ((s.pre enc Tryz.prog fn [] false (w.forCall tape i).memory i.args∧laidMetH Tryz.prog ld (w.forCall tape i).memory)∧sizedMet enc Tryz.prog fn (OpenSpec.ofChange s) false (w.forCall tape i).memory i.args)∧({}:Assume).holds Tryz.prog (lone (Frame.enter Tryz.prog f i.args .normal) [] (w.forCall tape i)))
  (main:∀(W:World) (base:Nat) (args:Array Value) (ds:List (DataW H)) (p:List MemPlace),laidMetH Tryz.prog ld W->(∀(j:Nat) t v,fn.params[j]? = some t->args[j]? = some v->Value.okWide Tryz.prog W .any base t v)->
   DataW.TrodAll enc Tryz.prog W 0 (fun _=>true) true fn.params.toList args.toList ds p->Calls Tryz.prog f args W fun e W'=>e = .returned (.bool true)∧Ext W W'):
  ReturnsInHanded {} Go.Proofs.YtdbcpliafeoghaaGreatDoor.Tryz.pinned.checked os f .any (fun w args=>(s.pre enc Tryz.prog fn [] false w args∧laidMetH Tryz.prog ld w)∧sizedMet enc Tryz.prog fn (OpenSpec.ofChange s) false w args) (s.post enc Tryz.prog fn false r false false):=by
 refine returnsInHanded_of_change_and (C:=Go.Proofs.YtdbcpliafeoghaaGreatDoor.Tryz.pinned.checked) (X:=fun w _=>laidMetH Tryz.prog ld w) (fun _ _ _ hh h=>by rw[MakeChecks.laidMetH_plain _ _ _ hpl]at h ⊢;exact h.of_heap hh) own0 started noInit hfn witness ?_
 intro W base args ds gs before hval hW _ _ hL _
 have hlt:=hW.lt
 have hW':=hW
 obtain⟨p,q,hA,hV,rfl,_,_⟩:=hW
 rw[hvars]at hV
 obtain⟨rfl,rfl⟩:=trodVars_none hV
 refine(main W base args ds p hL hval hA).mono ?_
 rintro e W' ⟨rfl,hb⟩
 refine⟨_,rfl,?_⟩
 have hlen:ds.length=fn.params.toList.length:=by
  have:∀(ts:List TypeId) (vs:List Value) (ds:List (DataW H)) (p:List MemPlace),DataW.TrodAll enc Tryz.prog W 0 (fun _=>true) true ts vs ds p->ds.length=ts.length:=by
   intro ts
   induction ts with
   |nil=>intro vs ds p h;cases vs<;>cases ds<;>first|rfl|exact h.elim
   | cons t ts ih =>
    intro vs ds p h
    cases vs with
    |nil=>exact h.elim
    |cons v vs=>
     cases ds with
     |nil=>exact h.elim
     |cons d ds=>obtain⟨_,_,_,h2,_⟩:=h;simp[ih vs ds _ h2]
  exact this _ _ _ _ hA
 have hs:s.fn H (ds++[])={results:=[.lit (.bool true)],args:=ds}:=by rw[List.append_nil];exact hspec ds hlen
 refine⟨ds,[],p++[],[],p,[],hW',?_,?_,?_,hb.frame _,fun h=>by cases h⟩
 ·rw[hs,hres]
  exact trodAll_mk1 (shut_bool Tryz.underlying4 true)
 ·rw[hs]
  exact trodAll_below laid0 hb _ _ _ _ hread hA (fun x hx=>hlt x (List.mem_append_left _ hx))
 ·rw[hs,hvars];exact rfl
theorem laidPlain {P:Program} {n:String} {k:IntKind} {xs:List Int} {W:World} (h:laidMetH P [(n,.agg (xs.map fun x=> .lit (.int k x)))] W):laidMet P [(n,.agg (xs.map fun x=> .lit (.int k x)))] W:=by
 rw[MakeChecks.laidMetH_plain _ _ _ (by rfl)]at h;exact h
end Go.Sx
end
