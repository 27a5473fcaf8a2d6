/- Models of functions with their proofs, by program (gen/xt.py), and plain laws, in one text. Conditions: none. -/
import Derived.Test.YtfbkplemadmbfaaGreatDoorZSJu5
import Derived.Test.YtfbkplemadmbfaaGreatDoorZSJu2
import Derived.Test.YtfbkplemadmbfaaGreatDoorZSJu3
set_option linter.unusedVariables false
set_option linter.unusedSimpArgs false
set_option maxHeartbeats 4000000
set_option maxRecDepth 20000
section
namespace Go.Proofs.YtfbkplemadmbfaaGreatDoor
open Go.Sx
def _world_Net__nodes_k1 (r3:Int) (a13:List (Int)):Option ((List (Int)×(List (List (Int×Int))))):=
 some ((a13,(List.replicate (Int.toNat (wI .i64 ((1:Int)+r3))) ([]:List (Int×Int)))))
def _world_Net__nodes_k2 (a21:Int×List (Int)) (ag20:(Int×List (Int))->Option ((List (Int)×(List (List (Int×Int)))))) (a32:Int):Option ((List (Int)×(List (List (Int×Int))))):=
 ck ((List.length a21.2:Int)+(List.length ([a32]):Int)<=1099511627) (ag20 ((wI .i64 (a21.1+(1:Int))),(a21.2++[a32])))
def _world_Net__nodes_k3 (ag40:(Int×Int)->Option ((List (Int)×(List (List (Int×Int)))))) (a47:Int×Int):Option ((List (Int)×(List (List (Int×Int))))):=
 ag40 (a47.1,(wI .i64 (a47.2+(1:Int))))
def _world_Net__nodes_s2 (a21:Int×List (Int)) (ag20:(Int×List (Int))->Option ((List (Int)×(List (List (Int×Int)))))) (a41:Int×Int) (ag40:(Int×Int)->Option ((List (Int)×(List (List (Int×Int)))))):Option ((List (Int)×(List (List (Int×Int))))):=
 if a41.2<a21.1 then(ck (0<=a41.2∧a41.2<(List.length a21.2:Int)) (if(at' a21.2 a41.2)=a41.1 then(ck ((256:Int)≠0) (_world_Net__nodes_k3 ag40 ((Int.tmod (wI .i64 (a41.1+(1:Int))) (256:Int)),(-1:Int))))else(_world_Net__nodes_k3 ag40 (a41.1,a41.2))))else(_world_Net__nodes_k2 a21 ag20 (a41.1))
def _world_Net__nodes_s1 (fuel:Nat) (p0:Int×List (Int)×List (Int)×List (Int)×Bool×Bool) (r3:Int) (a21:Int×List (Int)) (ag20:(Int×List (Int))->Option ((List (Int)×(List (List (Int×Int)))))):Option ((List (Int)×(List (List (Int×Int))))):=
 if a21.1<(wI .i64 ((1:Int)+r3))then(Option.bind (m_world_at fuel p0.2.2.2.1 a21.1) fun r25=>(Option.bind (m_world_Within fuel r25 (256:Int)) fun r28=>(iter (_world_Net__nodes_s2 a21 ag20) fuel (r28,(0:Int)))))else(_world_Net__nodes_k1 r3 (a21.2))
def m__world_Net__nodes (fuel:Nat) (p0:Int×List (Int)×List (Int)×List (Int)×Bool×Bool) (p1:Int):Option ((List (Int)×(List (List (Int×Int))))):=
 Option.bind (m_world_Within fuel (wI .i64 (p0.1 - (1:Int))) p1) fun r3=>(ck (0<=(wI .i64 ((1:Int)+r3))∧(wI .i64 ((1:Int)+r3))<=1099511627) (iter (_world_Net__nodes_s1 fuel p0 r3) fuel ((0:Int),([]:List Int))))
theorem body62:HasBody Tryz.prog 62:=Tryz.call62
theorem t__world_Net__nodes (fuel:Nat) {p0:Int×List (Int)×List (Int)×List (Int)×Bool×Bool} {p1:Int} (v0:Value)  (v1:Value)  (v2:Value) (r:(List (Int)×(List (List (Int×Int))))) (h:m__world_Net__nodes fuel p0 p1=some r):
  Meets Tryz.prog 62 #[Value.agg #[Value.int .i64 (p0.1),v0,v1,v2,Value.bool (p0.2.2.2.2.1),Value.bool (p0.2.2.2.2.2)],Value.int .i64 (p1)] [Sl RI64 v0 p0.2.1,Sl RI64 v1 p0.2.2.1,Sl RI64 v2 p0.2.2.2.1] (fun x:Value×Value×List Value=>Value.agg #[x.1,x.2.1]) (fun x l=>Ar EI64 x.1 r.1::Ar Enc.raw x.2.1 x.2.2::Rws EI64I64p x.2.2 r.2::l) (fun _ l=>l):=by
 refine Meets.of (vs:=[Value.agg #[Value.int .i64 (p0.1),v0,v1,v2,Value.bool (p0.2.2.2.2.1),Value.bool (p0.2.2.2.2.2)],Value.int .i64 (p1)]) Tryz.func62 rfl Tryz.ntmps62 rfl fun c=> ?_
 unfold m__world_Net__nodes at h
 refine J.seq<|J.region<|J.loud (Loud.box (cs:=[Value.int .i64 (p0.1),v0,v1,v2,Value.bool (p0.2.2.2.2.1),Value.bool (p0.2.2.2.2.2)]) rfl rfl) rfl fun b1=>J.loud (Loud.alloc (cs:=[Value.slice none 0 0,Value.slice none 0 0]) rfl rfl) rfl fun b2=>J.done<|J.thenN<|J.seq<|J.region<|J.quiet (Y.fieldB rfl rfl rfl rfl rfl) rfl<|J.quiet (Y.loadB 1 rfl rfl rfl rfl rfl) rfl<|J.quiet (Y.subW rfl rfl) rfl<|J.quiet (Y.move rfl) rfl ?_
 have h:=bnd h;obtain⟨r3,hr4,h⟩:=h
 refine J.loud (Loud.callL body64 (t_world_Within fuel  r3 hr4) rfl .nil (fun _ _=>rfl)) rfl fun x5=>J.quiet (Y.addW rfl rfl) rfl<|J.quiet (Y.assign rfl) rfl<|J.done<|J.thenN<|J.seq<|J.region<|J.quiet (Y.move rfl) rfl ?_
 have h:=ck_some h;obtain⟨hc6,h⟩:=h
 refine J.stp (Stp.rowsNew EI64I64p (Int.toNat (wI .i64 ((1:Int)+r3))))<|J.loud (Loud.makeS (e:=Enc.raw) (Value.slice none 0 0) rfl rfl rfl rfl hc6 rfl rfl rfl) rfl fun u7=>J.know (Know.one (Lent.sl (Lent.rows (i:=0) (j:=1) rfl rfl FI64I64p))) fun ho8=> ?_
 refine J.quiet (Y.bld1 (r:=Value.agg #[Value.slice none 0 0,u7]) rfl (by intro w;simp[Instr.build,Instr.fill,cells_intV,cells_boolV,cells_sliceV,cells_ptrV,cells_strV,cells_funcV,cells_agg,one_cells ho8])) rfl ?_
 refine J.loud (Loud.alloc (cs:=[Value.slice none 0 0,Value.slice none 0 0]) rfl rfl) rfl fun b9=>J.know (Know.one (Lent.sl (Lent.rows (i:=1) (j:=2) rfl rfl FI64I64p))) fun ho10=>J.storeAll 0 (vs:=[Value.slice none 0 0,u7]) rfl rfl (all1 rfl (all1 ho10 rfl)) rfl rfl rfl<|J.done<|J.thenN<|J.seq<|J.midI (A:=List (Int)) (B:=Value) (fun a13=>_world_Net__nodes_k1 r3 a13=some r) (fun a13 b14=>[(4,Value.pointer (some ⟨b2,0,none⟩)),(6,Value.pointer (some ⟨b9,0,none⟩))]) (fun a13 b14=>[Blk b9 [b14,u7] 25,Ar Enc.raw u7 (List.replicate (Int.toNat (wI .i64 ((1:Int)+r3))) (Value.slice none 0 0)),Rws EI64I64p (List.replicate (Int.toNat (wI .i64 ((1:Int)+r3))) (Value.slice none 0 0)) (List.replicate (Int.toNat (wI .i64 ((1:Int)+r3))) ([]:List (Int×Int))),Blk b2 [Value.slice none 0 0,Value.slice none 0 0] 25,Ar EI64 b14 a13]) (fun a13 b14=>[Sl RI64 v0 p0.2.1,Sl RI64 v1 p0.2.2.1,Sl RI64 v2 p0.2.2.2.1]) ?_ ?_
 ·refine J.seq<|J.region<|J.quiet (Y.assign rfl) rfl<|J.done<|J.thenN<|J.block<|J.stp (Stp.nilAr EI64)<|J.loopI (A:=Int×List (Int)) (B:=Value) (_world_Net__nodes_s1 fuel p0 r3) (fun a21 b22=>[(2,Value.pointer (some ⟨b1,0,none⟩)),(4,Value.pointer (some ⟨b2,0,none⟩)),(5,Value.int .i64 (wI .i64 ((1:Int)+r3))),(6,Value.pointer (some ⟨b9,0,none⟩)),(7,Value.int .i64 (a21.1))]) (fun a21 b22=>[Blk b9 [b22,u7] 25,Ar Enc.raw u7 (List.replicate (Int.toNat (wI .i64 ((1:Int)+r3))) (Value.slice none 0 0)),Rws EI64I64p (List.replicate (Int.toNat (wI .i64 ((1:Int)+r3))) (Value.slice none 0 0)) (List.replicate (Int.toNat (wI .i64 ((1:Int)+r3))) ([]:List (Int×Int))),Blk b2 [Value.slice none 0 0,Value.slice none 0 0] 25,Blk b1 [Value.int .i64 (p0.1),v0,v1,v2,Value.bool (p0.2.2.2.2.1),Value.bool (p0.2.2.2.2.2)] 38,Ar EI64 b22 a21.2]) (fun a21 b22=>[Sl RI64 v0 p0.2.1,Sl RI64 v1 p0.2.2.1,Sl RI64 v2 p0.2.2.2.1]) ((0:Int),([]:List Int)) (Value.slice none 0 0) h SF (SubM.cons 1 rfl (SubM.cons 1 rfl (SubM.cons 1 rfl (SubM.cons 1 rfl (SubM.cons 1 rfl (SubM.cons 0 rfl (SubM.nil))))))) (LentAll.refl _ _) ?_
  clear h
  intro k23 a21 b22 h
  unfold _world_Net__nodes_s1 at h
  refine J.seq<|J.seq<|J.region<|J.quiet (Y.move rfl) rfl<|J.quiet (Y.move rfl) rfl<|J.quiet (Y.lss rfl rfl) rfl<|J.done<|J.thenN ?_
  refine J.condD (by exact rfl) (fun hp24=> ?_) (fun hp24=> ?_)
  ·have h:=ifP hp24 h
   refine J.skip<|J.thenN<|J.seq<|J.block<|J.seq<|J.region<|J.quiet (Y.fieldB rfl rfl rfl rfl rfl) rfl<|J.quiet (Y.loadB 4 rfl rfl rfl rfl rfl) rfl<|J.quiet (Y.move rfl) rfl ?_
   have h:=bnd h;obtain⟨r25,hr26,h⟩:=h
   refine J.loud (Loud.callL body65 (t_world_at fuel v2 r25 hr26) rfl (LentAll.cons (Lent.fact 2 rfl) .nil) (fun _ _=>rfl)) rfl fun x27=> ?_
   have h:=bnd h;obtain⟨r28,hr29,h⟩:=h
   refine J.loud (Loud.callL body64 (t_world_Within fuel  r28 hr29) rfl .nil (fun _ _=>rfl)) rfl fun x30=>J.quiet (Y.assign rfl) rfl<|J.done<|J.thenN<|J.seq<|J.midI (A:=Int) (B:=Unit) (fun a32=>_world_Net__nodes_k2 a21 (iter (_world_Net__nodes_s1 fuel p0 r3) k23) a32=some r) (fun a32 b33=>[(2,Value.pointer (some ⟨b1,0,none⟩)),(4,Value.pointer (some ⟨b2,0,none⟩)),(5,Value.int .i64 (wI .i64 ((1:Int)+r3))),(6,Value.pointer (some ⟨b9,0,none⟩)),(7,Value.int .i64 (a21.1)),(8,Value.int .i64 (a32))]) (fun a32 b33=>[Blk b9 [b22,u7] 25,Ar Enc.raw u7 (List.replicate (Int.toNat (wI .i64 ((1:Int)+r3))) (Value.slice none 0 0)),Rws EI64I64p (List.replicate (Int.toNat (wI .i64 ((1:Int)+r3))) (Value.slice none 0 0)) (List.replicate (Int.toNat (wI .i64 ((1:Int)+r3))) ([]:List (Int×Int))),Blk b2 [Value.slice none 0 0,Value.slice none 0 0] 25,Blk b1 [Value.int .i64 (p0.1),v0,v1,v2,Value.bool (p0.2.2.2.2.1),Value.bool (p0.2.2.2.2.2)] 38,Ar EI64 b22 a21.2]) (fun a32 b33=>[Sl RI64 v0 p0.2.1,Sl RI64 v1 p0.2.2.1,Sl RI64 v2 p0.2.2.2.1]) ?_ ?_
   ·refine J.seq<|J.region<|J.quiet (Y.assign rfl) rfl<|J.done<|J.thenN<|J.block<|J.loopI (A:=Int×Int) (B:=Unit) (_world_Net__nodes_s2 a21 (iter (_world_Net__nodes_s1 fuel p0 r3) k23)) (fun a41 b42=>[(2,Value.pointer (some ⟨b1,0,none⟩)),(4,Value.pointer (some ⟨b2,0,none⟩)),(5,Value.int .i64 (wI .i64 ((1:Int)+r3))),(6,Value.pointer (some ⟨b9,0,none⟩)),(7,Value.int .i64 (a21.1)),(8,Value.int .i64 (a41.1)),(9,Value.int .i64 (a41.2))]) (fun a41 b42=>[Blk b9 [b22,u7] 25,Ar Enc.raw u7 (List.replicate (Int.toNat (wI .i64 ((1:Int)+r3))) (Value.slice none 0 0)),Rws EI64I64p (List.replicate (Int.toNat (wI .i64 ((1:Int)+r3))) (Value.slice none 0 0)) (List.replicate (Int.toNat (wI .i64 ((1:Int)+r3))) ([]:List (Int×Int))),Blk b2 [Value.slice none 0 0,Value.slice none 0 0] 25,Blk b1 [Value.int .i64 (p0.1),v0,v1,v2,Value.bool (p0.2.2.2.2.1),Value.bool (p0.2.2.2.2.2)] 38,Ar EI64 b22 a21.2]) (fun a41 b42=>[Sl RI64 v0 p0.2.1,Sl RI64 v1 p0.2.2.1,Sl RI64 v2 p0.2.2.2.1]) (r28,(0:Int)) (()) h SF (SubM.refl _) (LentAll.refl _ _) ?_
    clear h
    intro k43 a41 b42 h
    unfold _world_Net__nodes_s2 at h
    refine J.seq<|J.seq<|J.region<|J.quiet (Y.move rfl) rfl<|J.quiet (Y.move rfl) rfl<|J.quiet (Y.lss rfl rfl) rfl<|J.done<|J.thenN ?_
    refine J.condD (by exact rfl) (fun hp44=> ?_) (fun hp44=> ?_)
    ·have h:=ifP hp44 h
     refine J.skip<|J.thenN<|J.seq<|J.midI (A:=Int×Int) (B:=Unit) (fun a47=>_world_Net__nodes_k3 (iter (_world_Net__nodes_s2 a21 (iter (_world_Net__nodes_s1 fuel p0 r3) k23)) k43) a47=some r) (fun a47 b48=>[(2,Value.pointer (some ⟨b1,0,none⟩)),(4,Value.pointer (some ⟨b2,0,none⟩)),(5,Value.int .i64 (wI .i64 ((1:Int)+r3))),(6,Value.pointer (some ⟨b9,0,none⟩)),(7,Value.int .i64 (a21.1)),(8,Value.int .i64 (a47.1)),(9,Value.int .i64 (a47.2))]) (fun a47 b48=>[Blk b9 [b22,u7] 25,Ar Enc.raw u7 (List.replicate (Int.toNat (wI .i64 ((1:Int)+r3))) (Value.slice none 0 0)),Rws EI64I64p (List.replicate (Int.toNat (wI .i64 ((1:Int)+r3))) (Value.slice none 0 0)) (List.replicate (Int.toNat (wI .i64 ((1:Int)+r3))) ([]:List (Int×Int))),Blk b2 [Value.slice none 0 0,Value.slice none 0 0] 25,Blk b1 [Value.int .i64 (p0.1),v0,v1,v2,Value.bool (p0.2.2.2.2.1),Value.bool (p0.2.2.2.2.2)] 38,Ar EI64 b22 a21.2]) (fun a47 b48=>[Sl RI64 v0 p0.2.1,Sl RI64 v1 p0.2.2.1,Sl RI64 v2 p0.2.2.2.1]) ?_ ?_
     ·refine J.block<|J.seq<|J.region<|J.quiet (Y.fieldB rfl rfl rfl rfl rfl) rfl<|J.quiet (Y.loadB 0 rfl rfl rfl rfl rfl) rfl<|J.quiet (Y.move rfl) rfl ?_
      have h:=ck_some h;obtain⟨hc49,h⟩:=h
      refine J.quiet (Y.indexS rfl rfl (Lent.ar (Lent.res 5 rfl) FI64) rfl rfl hc49) rfl<|J.quiet (Y.loadS0 rfl (Lent.ar (Lent.res 5 rfl) FI64) rfl rfl rfl RI64c0 hc49) rfl<|J.quiet (Y.move rfl) rfl<|J.quiet (Y.eql rfl rfl) rfl<|J.done<|J.thenN ?_
      refine J.condD (by exact rfl) (fun hp50=> ?_) (fun hp50=> ?_)
      ·have h:=ifP hp50 h
       refine J.region<|J.quiet (Y.move rfl) rfl<|J.quiet (Y.addW rfl rfl) rfl ?_
       have h:=ck_some h;obtain⟨hc51,h⟩:=h
       refine J.quiet (Y.rem rfl rfl hc51) rfl<|J.quiet (Y.assign rfl) rfl<|J.quiet (Y.assign rfl) rfl<|J.done<|J.inN<|J.thenN ?_
       exact J.meetI ((Int.tmod (wI .i64 (a41.1+(1:Int))) (256:Int)),(-1:Int)) (()) h SF (SubM.refl _) (LentAll.refl _ _)
      ·have h:=ifN hp50 h
       refine J.skip<|J.inN<|J.thenN ?_
       exact J.meetI (a41.1,a41.2) (()) h SF (SubM.refl _) (LentAll.refl _ _)
     ·clear h
      intro a47 b48 h
      unfold _world_Net__nodes_k3 at h
      refine J.region<|J.quiet (Y.move rfl) rfl<|J.quiet (Y.addW rfl rfl) rfl<|J.quiet (Y.assign rfl) rfl<|J.done<|J.thenN ?_
      exact J.againI (a47.1,(wI .i64 (a47.2+(1:Int)))) (()) h SF (SubM.refl _) (LentAll.refl _ _)
    ·have h:=ifN hp44 h
     refine J.exit<|J.thenX<|J.thenX<|J.inX<|J.thenN ?_
     exact J.meetI (a41.1) (()) h SF (SubM.refl _) (LentAll.refl _ _)
   ·clear h
    intro a32 b33 h
    unfold _world_Net__nodes_k2 at h
    refine J.region<|J.quiet (Y.fieldB rfl rfl rfl rfl rfl) rfl<|J.quiet (Y.loadB 0 rfl rfl rfl rfl rfl) rfl<|J.quiet (Y.move rfl) rfl<|J.loud (Loud.buildS (e:=EI64) ([a32]) [(0,Value.int .i64 (a32))] rfl rfl rfl rfl (fill_1_1 (Value.int .i64 (a32)) rfl) rfl rfl rfl) rfl fun u34=> ?_
    have h:=ck_some h;obtain⟨hc36,h⟩:=h
    refine J.loud (Loud.appendL 6 FI64 rfl rfl rfl (Lent.ar (Lent.res 0 rfl) FI64) rfl rfl rfl rfl hc36 rfl) rfl fun u35=>J.quiet (Y.fieldB rfl rfl rfl rfl rfl) rfl<|J.know (Know.one ((Lent.ar (Lent.res 6 rfl) FI64))) fun ho37=>J.store1 1 rfl rfl ho37 rfl rfl rfl<|J.done<|J.inN<|J.thenN<|J.region<|J.quiet (Y.move rfl) rfl<|J.quiet (Y.addW rfl rfl) rfl<|J.quiet (Y.assign rfl) rfl<|J.done<|J.thenN ?_
    exact J.againI ((wI .i64 (a21.1+(1:Int))),(a21.2++[a32])) (u35) h SF (SubM.cons 1 rfl (SubM.cons 1 rfl (SubM.cons 1 rfl (SubM.cons 1 rfl (SubM.cons 1 rfl (SubM.cons 1 rfl (SubM.nil))))))) (LentAll.refl _ _)
  ·have h:=ifN hp24 h
   refine J.exit<|J.thenX<|J.thenX<|J.inX<|J.thenN ?_
   exact J.meetI (a21.2) (b22) h SF (SubM.cons 0 rfl (SubM.cons 0 rfl (SubM.cons 0 rfl (SubM.cons 0 rfl (SubM.cons 1 rfl (SubM.nil)))))) (LentAll.refl _ _)
 ·clear h
  intro a13 b14 h
  unfold _world_Net__nodes_k1 at h
  refine J.seq<|J.region<|J.quiet (Y.loadBAll 0 rfl rfl rfl rfl) rfl<|J.know (Know.one ((Lent.ar (Lent.res 4 rfl) FI64))) fun ho15=>J.know (Know.one (Lent.sl (Lent.rows (i:=1) (j:=2) rfl rfl FI64I64p))) fun ho16=>J.storeAll 3 (vs:=[b14,u7]) rfl rfl (all1 ho15 (all1 ho16 rfl)) rfl rfl rfl<|J.done<|J.thenN<|J.ret ?_
  obtain rfl:=Option.some.inj h
  exact J.retG1 (b14,u7,(List.replicate (Int.toNat (wI .i64 ((1:Int)+r3))) (Value.slice none 0 0))) rfl rfl (RV.cell 3 rfl rfl rfl rfl) (SubM.cons 4 rfl (SubM.cons 1 rfl (SubM.cons 1 rfl (SubM.nil)))) LentAll.nil
end Go.Proofs.YtfbkplemadmbfaaGreatDoor
end
section
namespace Go.Proofs.YtfbkplemadmbfaaGreatDoor
open Go.Sx
def world_linked_k1  (a2:Unit):Option (Bool):=
 some (false)
def world_linked_s1 (p0:List (Int)×(List (List (Int×Int)))) (p1:Int) (p2:Int) (a6:Int) (ag5:(Int)->Option (Bool)):Option (Bool):=
 ck (0<=p1∧p1<(List.length p0.2:Int)) (if a6<(List.length (at' p0.2 p1):Int)then(ck (0<=p1∧p1<(List.length p0.2:Int)) (ck (0<=a6∧a6<(List.length (at' p0.2 p1):Int)) (if((at' (at' p0.2 p1) a6).1)=p2 then(some (true))else(ag5 (wI .i64 (a6+(1:Int)))))))else(world_linked_k1  (())))
def m_world_linked (fuel:Nat) (p0:List (Int)×(List (List (Int×Int)))) (p1:Int) (p2:Int):Option (Bool):=
 iter (world_linked_s1 p0 p1 p2) fuel (0:Int)
theorem body93:HasBody Tryz.prog 93:=Tryz.call93
theorem t_world_linked (fuel:Nat) {p0:List (Int)×(List (List (Int×Int)))} {p1:Int} {p2:Int} (v0:Value)  (v1:Value)  (z2:List (Value×List (Int×Int))) (r:Bool) (h:m_world_linked fuel p0 p1 p2=some r):
  Meets Tryz.prog 93 #[Value.agg #[v0,v1],Value.int .i64 (p1),Value.int .i64 (p2)] [Sl RI64 v0 p0.1,S2 RI64I64p v1 z2 p0.2] (fun x:Unit=>Value.bool (r)) (fun x l=>l) (fun _ l=>l):=by
 refine Meets.of (vs:=[Value.agg #[v0,v1],Value.int .i64 (p1),Value.int .i64 (p2)]) Tryz.func93 rfl Tryz.ntmps93 rfl fun c=> ?_
 unfold m_world_linked at h
 refine J.seq<|J.region<|J.loud (Loud.box (cs:=[v0,v1]) rfl rfl) rfl fun b1=>J.quiet (Y.assign rfl) rfl<|J.done<|J.thenN<|J.seq<|J.midI (A:=Unit) (B:=Unit) (fun a2=>world_linked_k1  a2=some r) (fun a2 b3=>[]) (fun a2 b3=>[]) (fun a2 b3=>[Sl RI64 v0 p0.1,S2 RI64I64p v1 z2 p0.2]) ?_ ?_
 ·refine J.seq<|J.region<|J.quiet (Y.assign rfl) rfl<|J.done<|J.thenN<|J.block<|J.loopI (A:=Int) (B:=Unit) (world_linked_s1 p0 p1 p2) (fun a6 b7=>[(1,Value.int .i64 (p1)),(2,Value.int .i64 (p2)),(3,Value.pointer (some ⟨b1,0,none⟩)),(7,Value.int .i64 (a6))]) (fun a6 b7=>[Blk b1 [v0,v1] 25]) (fun a6 b7=>[Sl RI64 v0 p0.1,S2 RI64I64p v1 z2 p0.2]) (0:Int) (()) h SF (SubM.refl _) (LentAll.refl _ _) ?_
  clear h
  intro k8 a6 b7 h
  unfold world_linked_s1 at h
  refine J.seq<|J.seq<|J.region<|J.quiet (Y.move rfl) rfl<|J.quiet (Y.fieldB rfl rfl rfl rfl rfl) rfl<|J.quiet (Y.loadB 0 rfl rfl rfl rfl rfl) rfl<|J.quiet (Y.move rfl) rfl ?_
  have h:=ck_some h;obtain⟨hc9,h⟩:=h
  refine J.quiet (Y.indexN rfl rfl (Lent.fact 1 rfl) rfl rfl hc9) rfl<|J.quiet (Y.loadRow rfl (Lent.fact 1 rfl) rfl rfl hc9) rfl<|J.quiet (Y.lenS rfl (Lent.el (Lent.fact 1 rfl) hc9.1 hc9.2) rfl) rfl<|J.quiet (Y.lss rfl rfl) rfl<|J.done<|J.thenN ?_
  refine J.condD (by exact rfl) (fun hp10=> ?_) (fun hp10=> ?_)
  ·have h:=ifP hp10 h
   refine J.skip<|J.thenN<|J.seq<|J.block<|J.seq<|J.region<|J.quiet (Y.fieldB rfl rfl rfl rfl rfl) rfl<|J.quiet (Y.loadB 0 rfl rfl rfl rfl rfl) rfl<|J.quiet (Y.move rfl) rfl ?_
   have h:=ck_some h;obtain⟨hc11,h⟩:=h
   refine J.quiet (Y.indexN rfl rfl (Lent.fact 1 rfl) rfl rfl hc11) rfl<|J.quiet (Y.loadRow rfl (Lent.fact 1 rfl) rfl rfl hc11) rfl<|J.quiet (Y.move rfl) rfl ?_
   have h:=ck_some h;obtain⟨hc12,h⟩:=h
   refine J.quiet (Y.indexS rfl rfl (Lent.el (Lent.fact 1 rfl) hc11.1 hc11.2) rfl rfl hc12) rfl<|J.quiet (Y.fieldEl rfl rfl rfl rfl rfl) rfl<|J.quiet (Y.loadS rfl (Lent.el (Lent.fact 1 rfl) hc11.1 hc11.2) rfl rfl rfl RI64I64pc0 hc12) rfl<|J.quiet (Y.move rfl) rfl<|J.quiet (Y.eql rfl rfl) rfl<|J.done<|J.thenN ?_
   refine J.condD (by exact rfl) (fun hp13=> ?_) (fun hp13=> ?_)
   ·have h:=ifP hp13 h
    refine J.seq<|J.region<|J.quiet (Y.assign rfl) rfl<|J.done<|J.thenN<|J.ret<|J.inR<|J.thenR<|J.thenR<|J.inR<|J.thenR ?_
    obtain rfl:=Option.some.inj h
    exact J.retG1 (()) rfl rfl (RV.tmp rfl) (SubM.nil) LentAll.nil
   ·have h:=ifN hp13 h
    refine J.skip<|J.inN<|J.thenN<|J.region<|J.quiet (Y.move rfl) rfl<|J.quiet (Y.addW rfl rfl) rfl<|J.quiet (Y.assign rfl) rfl<|J.done<|J.thenN ?_
    exact J.againI (wI .i64 (a6+(1:Int))) (()) h SF (SubM.refl _) (LentAll.refl _ _)
  ·have h:=ifN hp10 h
   refine J.exit<|J.thenX<|J.thenX<|J.inX<|J.thenN ?_
   exact J.meetI (()) (()) h SF (SubM.nil) (LentAll.refl _ _)
 ·clear h
  intro a2 b3 h
  unfold world_linked_k1 at h
  refine J.seq<|J.region<|J.quiet (Y.assign rfl) rfl<|J.done<|J.thenN<|J.ret ?_
  obtain rfl:=Option.some.inj h
  exact J.retG1 (()) rfl rfl (RV.tmp rfl) (SubM.refl _) LentAll.nil
end Go.Proofs.YtfbkplemadmbfaaGreatDoor
end
section
namespace Go.Proofs.YtfbkplemadmbfaaGreatDoor
open Go.Sx
def _world_Net__link_k1 (p0:Int×List (Int)×List (Int)×List (Int)×Bool×Bool) (p1:List (Int)×(List (List (Int×Int)))) (p2:Int) (p3:Int) (p4:Int) (a4:Bool):Option ((List (List (Int×Int)))):=
 if a4=true then(some (p1.2))else(if p0.2.2.2.2.2=true then(ck (0<=p2∧p2<(List.length p1.2:Int)) (ck ((List.length ([(p3,p4)]):Int)+(List.length (at' p1.2 p2):Int)<=1099511627) (ck (0<=p2∧p2<(List.length p1.2:Int)) (ck (0<=p3∧p3<(List.length (List.set p1.2 (Int.toNat p2) (([(p3,p4)])++(at' p1.2 p2))):Int)) (ck ((List.length ([(p2,p4)]):Int)+(List.length (at' (List.set p1.2 (Int.toNat p2) (([(p3,p4)])++(at' p1.2 p2))) p3):Int)<=1099511627) (ck (0<=p3∧p3<(List.length (List.set p1.2 (Int.toNat p2) (([(p3,p4)])++(at' p1.2 p2))):Int)) (some (List.set (List.set p1.2 (Int.toNat p2) (([(p3,p4)])++(at' p1.2 p2))) (Int.toNat p3) (([(p2,p4)])++(at' (List.set p1.2 (Int.toNat p2) (([(p3,p4)])++(at' p1.2 p2))) p3))))))))))else(ck (0<=p2∧p2<(List.length p1.2:Int)) (ck (0<=p3∧p3<(List.length p1.2:Int)) (ck ((List.length (at' p1.2 p2):Int)+(List.length ([(p3,p4)]):Int)<=1099511627) (ck ((List.length (at' p1.2 p3):Int)+(List.length ([(p2,p4)]):Int)<=1099511627) (ck (Int.toNat p2≠Int.toNat p3) (ck (0<=p2∧p2<(List.length (List.set (List.set p1.2 (Int.toNat p2) ((at' p1.2 p2)++([(p3,p4)]))) (Int.toNat p3) ((at' p1.2 p3)++([(p2,p4)]))):Int)) (ck (0<=p3∧p3<(List.length (List.set (List.set p1.2 (Int.toNat p2) ((at' p1.2 p2)++([(p3,p4)]))) (Int.toNat p3) ((at' p1.2 p3)++([(p2,p4)]))):Int)) (some (List.set (List.set p1.2 (Int.toNat p2) ((at' p1.2 p2)++([(p3,p4)]))) (Int.toNat p3) ((at' p1.2 p3)++([(p2,p4)]))))))))))))
def m__world_Net__link (fuel:Nat) (p0:Int×List (Int)×List (Int)×List (Int)×Bool×Bool) (p1:List (Int)×(List (List (Int×Int)))) (p2:Int) (p3:Int) (p4:Int):Option ((List (List (Int×Int)))):=
 if p2=p3 then(_world_Net__link_k1 p0 p1 p2 p3 p4 (true))else(Option.bind (m_world_linked fuel ((p1.1,p1.2)) p2 p3) fun r86=>(_world_Net__link_k1 p0 p1 p2 p3 p4 (r86)))
theorem body63:HasBody Tryz.prog 63:=Tryz.call63
theorem t__world_Net__link (fuel:Nat) {p0:Int×List (Int)×List (Int)×List (Int)×Bool×Bool} {p1:List (Int)×(List (List (Int×Int)))} {p2:Int} {p3:Int} {p4:Int} (v0:Value)  (v1:Value)  (v2:Value)  (v3:Value)  (v4:Value)  (w5:List Value) (r:(List (List (Int×Int)))) (h:m__world_Net__link fuel p0 p1 p2 p3 p4=some r):
  MeetsM Tryz.prog 63 #[Value.agg #[Value.int .i64 (p0.1),v0,v1,v2,Value.bool (p0.2.2.2.2.1),Value.bool (p0.2.2.2.2.2)],Value.agg #[v3,v4],Value.int .i64 (p2),Value.int .i64 (p3),Value.int .i64 (p4)] [Ar Enc.raw v4 w5,Rws EI64I64p w5 p1.2] [Sl RI64 v0 p0.2.1,Sl RI64 v1 p0.2.2.1,Sl RI64 v2 p0.2.2.2.1,Sl RI64 v3 p1.1] (fun x:List Value=>Value.tuple #[]) (fun x l=>Ar Enc.raw v4 x::Rws EI64I64p x r::l):=by
 refine MeetsM.of (vs:=[Value.agg #[Value.int .i64 (p0.1),v0,v1,v2,Value.bool (p0.2.2.2.2.1),Value.bool (p0.2.2.2.2.2)],Value.agg #[v3,v4],Value.int .i64 (p2),Value.int .i64 (p3),Value.int .i64 (p4)]) Tryz.func63 rfl Tryz.ntmps63 rfl fun c=> ?_
 unfold m__world_Net__link at h
 refine J.seq<|J.region<|J.loud (Loud.box (cs:=[Value.int .i64 (p0.1),v0,v1,v2,Value.bool (p0.2.2.2.2.1),Value.bool (p0.2.2.2.2.2)]) rfl rfl) rfl fun b1=>J.loud (Loud.box (cs:=[v3,v4]) rfl rfl) rfl fun b2=>J.done<|J.thenN<|J.seq<|J.seq<|J.midI (A:=Bool) (B:=Unit) (fun a4=>_world_Net__link_k1 p0 p1 p2 p3 p4 a4=some r) (fun a4 b5=>[(2,Value.int .i64 (p2)),(3,Value.int .i64 (p3)),(4,Value.int .i64 (p4)),(5,Value.pointer (some ⟨b1,0,none⟩)),(6,Value.pointer (some ⟨b2,0,none⟩)),(20,Value.bool (a4))]) (fun a4 b5=>[Blk b2 [v3,v4] 25,Blk b1 [Value.int .i64 (p0.1),v0,v1,v2,Value.bool (p0.2.2.2.2.1),Value.bool (p0.2.2.2.2.2)] 38,Ar Enc.raw v4 w5,Rws EI64I64p w5 p1.2]) (fun a4 b5=>[Sl RI64 v0 p0.2.1,Sl RI64 v1 p0.2.2.1,Sl RI64 v2 p0.2.2.2.1,Sl RI64 v3 p1.1]) ?_ ?_
 ·refine J.region<|J.quiet (Y.move rfl) rfl<|J.quiet (Y.move rfl) rfl<|J.quiet (Y.eql rfl rfl) rfl<|J.quiet (Y.move rfl) rfl ?_
  refine J.guardD (by exact rfl) (by exact rfl) (fun hp85=> ?_) (fun hp85=> ?_)
  ·have h:=ifP hp85 h
   refine J.guardN rfl rfl rfl<|J.guardN rfl rfl rfl<|J.guardN rfl rfl rfl<|J.guardN rfl rfl rfl<|J.quiet (Y.pickT rfl rfl) rfl<|J.done<|J.thenN ?_
   exact J.meetI (true) (()) h SF (SubM.refl _) (LentAll.refl _ _)
  ·have h:=ifN hp85 h
   refine J.guardY rfl (Y.loadBAll 0 rfl rfl rfl rfl) rfl<|J.guardY rfl (Y.move rfl) rfl<|J.guardY rfl (Y.move rfl) rfl ?_
   have h:=bnd h;obtain⟨r86,hr87,h⟩:=h
   refine J.loudG rfl (Loud.callL body93 (t_world_linked fuel v3 v4 (List.zip w5 p1.2) r86 hr87) rfl (LentAll.cons (Lent.fact 3 rfl) (LentAll.cons (Lent.rows (i:=2) (j:=3) rfl rfl FI64I64p) .nil)) (fun _ _=>rfl)) rfl fun x88=>J.quiet (Y.pickF rfl rfl) rfl<|J.done<|J.thenN ?_
   exact J.meetI (r86) (()) h SF (SubM.refl _) (LentAll.refl _ _)
 ·clear h
  intro a4 b5 h
  unfold _world_Net__link_k1 at h
  refine J.cond (by exact rfl) (fun hp6=> ?_) (fun hp6=> ?_)
  ·have h:=ifP hp6 h
   refine J.ret<|J.thenR ?_
   obtain rfl:=Option.some.inj h
   exact J.retG0 (w5) rfl rfl .ret (.inl rfl) (SubM.cons 2 rfl (SubM.cons 2 rfl (SubM.nil))) LentAll.nil
  ·have h:=ifBN hp6 h
   refine J.skip<|J.thenN<|J.seq<|J.region<|J.quiet (Y.move rfl) rfl<|J.quiet (Y.move rfl) rfl ?_
   refine J.quiet (Y.bld2 (r:=Value.agg #[Value.int .i64 (p3),Value.int .i64 (p4)]) rfl rfl (by intro w;simp[Instr.build,Instr.fill,cells_intV,cells_boolV,cells_sliceV,cells_ptrV,cells_strV,cells_funcV,cells_agg])) rfl ?_
   refine J.quiet (Y.move rfl) rfl<|J.quiet (Y.move rfl) rfl ?_
   refine J.quiet (Y.bld2 (r:=Value.agg #[Value.int .i64 (p2),Value.int .i64 (p4)]) rfl rfl (by intro w;simp[Instr.build,Instr.fill,cells_intV,cells_boolV,cells_sliceV,cells_ptrV,cells_strV,cells_funcV,cells_agg])) rfl ?_
   refine J.loud (Loud.alloc (cs:=[Value.int .i64 (0:Int),Value.int .i64 (0:Int)]) rfl rfl) rfl fun b7=>J.loud (Loud.alloc (cs:=[Value.int .i64 (0:Int),Value.int .i64 (0:Int)]) rfl rfl) rfl fun b8=>J.storeAll 1 (vs:=[Value.int .i64 (p3),Value.int .i64 (p4)]) rfl rfl rfl rfl rfl rfl<|J.storeAll 0 (vs:=[Value.int .i64 (p2),Value.int .i64 (p4)]) rfl rfl rfl rfl rfl rfl<|J.done<|J.thenN<|J.seq<|J.seq<|J.region<|J.quiet (Y.fieldB rfl rfl rfl rfl rfl) rfl<|J.quiet (Y.loadB 3 rfl rfl rfl rfl rfl) rfl<|J.done<|J.thenN ?_
   refine J.cond (by exact rfl) (fun hp9=> ?_) (fun hp9=> ?_)
   ·have h:=ifP hp9 h
    refine J.seq ?_
    refine JR.start [0,1,0,0,8,0,32,0,224,480,1016,2047,4095] 11 mixedOrders (by decide +kernel) ?_
    refine JR.open (by exact rfl) ?_
    refine JR.qt rfl (SubM.nil) (SubL.nil) (Y.fieldB rfl rfl rfl rfl rfl) HistOk.z<|JR.qt rfl (SubM.cons 2 rfl (SubM.nil)) (SubL.nil) (Y.loadB 0 rfl rfl rfl rfl rfl) HistOk.z<|JR.qt rfl (SubM.nil) (SubL.nil) (Y.move rfl) HistOk.z<|JR.qt rfl (SubM.cons 1 rfl (SubM.nil)) (SubL.nil) (Y.loadBAll 0 rfl rfl rfl rfl) HistOk.z<|JR.loud rfl rfl rfl (Loud.buildS (e:=EI64I64p) ([((p3,p4))]) [(0,Value.agg #[Value.int .i64 (p3),Value.int .i64 (p4)])] rfl rfl rfl rfl (fill_1_2 (Value.int .i64 (p3)) (Value.int .i64 (p4))) rfl rfl rfl) rfl (fun u10=>(BsOk.b rfl (BsOk.h (SubM.nil) (SubL.nil) (BsOk.h (SubM.cons 3 rfl (SubM.nil)) (SubL.nil) (BsOk.h (SubM.nil) (SubL.nil) BsOk.z))))) fun u10=>JR.qt rfl (SubM.nil) (SubL.nil) (Y.fieldB rfl rfl rfl rfl rfl) (HistOk.h (SubM.nil) (SubL.nil) HistOk.z)<|JR.qt rfl (SubM.cons 3 rfl (SubM.nil)) (SubL.nil) (Y.loadB 0 rfl rfl rfl rfl rfl) (HistOk.h (SubM.cons 2 rfl (SubM.nil)) (SubL.nil) HistOk.z)<|JR.qt rfl (SubM.nil) (SubL.nil) (Y.move rfl) (HistOk.h (SubM.nil) (SubL.nil) HistOk.z) ?_
    have h:=ck_some h;obtain⟨hc11,h⟩:=h
    refine JR.know (Know.rws 6 rfl) fun hl12=> ?_
    refine JR.qt rfl (SubM.cons 5 rfl (SubM.nil)) (SubL.nil) (Y.indexA 0 rfl rfl rfl rfl rfl hc11.1 (by have q1:=hc11.2;have q2:=hl12;(try simp only[List.length_set]at q1);(try simp only[List.length_set]at q2);(try simp only[List.length_set]);omega)) (HistOk.h (SubM.cons 4 rfl (SubM.nil)) (SubL.nil) HistOk.z) ?_
    refine JR.know (Know.rws 6 rfl) fun hl13=>JR.qt rfl (SubM.cons 5 rfl (SubM.nil)) (SubL.nil) (Y.loadRaw 0 rfl rfl hl13 rfl rfl hc11) (HistOk.h (SubM.cons 4 rfl (SubM.nil)) (SubL.nil) HistOk.z) ?_
    have h:=ck_some h;obtain⟨hc15,h⟩:=h
    refine JR.loud rfl rfl rfl (Loud.appendL 0 FI64I64p rfl rfl rfl (Lent.row (j:=6) rfl FI64I64p hc11.1 hc11.2) rfl rfl rfl rfl hc15 rfl) rfl (fun u14=>(BsOk.b rfl (BsOk.b rfl (BsOk.b rfl (BsOk.b rfl (BsOk.b rfl (BsOk.b rfl (BsOk.h (SubM.nil) (SubL.nil) (BsOk.h (SubM.cons 3 rfl (SubM.nil)) (SubL.nil) (BsOk.h (SubM.nil) (SubL.nil) BsOk.z)))))))))) fun u14=>JR.tailD 11 rfl rfl ?_
    have h:=ck_some h;obtain⟨hc16,h⟩:=h
    refine J.quiet (Y.indexN rfl rfl (Lent.rows (i:=5) (j:=6) rfl rfl FI64I64p) rfl rfl hc16) rfl<|J.know (Know.one ((Lent.ar (Lent.res 0 rfl) FI64I64p))) fun ho17=>J.stp (Stp.putRow (k:=p2) 6 0 rfl rfl rfl hc16) ?_
    refine J.storeRow 4 5 ⟨hc16.1,by first|exact hc16.2|simpa using hc16.2⟩ rfl rfl rfl rfl rfl (by simp) ho17 rfl ?_
    refine J.done<|J.thenN<|J.seq ?_
    refine JR.start [0,1,0,0,8,0,32,0,224,480,1016,2047,4095] 11 mixedOrders (by decide +kernel) ?_
    refine JR.open (by exact rfl) ?_
    refine JR.qt rfl (SubM.nil) (SubL.nil) (Y.fieldB rfl rfl rfl rfl rfl) HistOk.z<|JR.qt rfl (SubM.cons 2 rfl (SubM.nil)) (SubL.nil) (Y.loadB 0 rfl rfl rfl rfl rfl) HistOk.z<|JR.qt rfl (SubM.nil) (SubL.nil) (Y.move rfl) HistOk.z<|JR.qt rfl (SubM.cons 0 rfl (SubM.nil)) (SubL.nil) (Y.loadBAll 0 rfl rfl rfl rfl) HistOk.z<|JR.loud rfl rfl rfl (Loud.buildS (e:=EI64I64p) ([((p2,p4))]) [(0,Value.agg #[Value.int .i64 (p2),Value.int .i64 (p4)])] rfl rfl rfl rfl (fill_1_2 (Value.int .i64 (p2)) (Value.int .i64 (p4))) rfl rfl rfl) rfl (fun u18=>(BsOk.b rfl (BsOk.h (SubM.nil) (SubL.nil) (BsOk.h (SubM.cons 3 rfl (SubM.nil)) (SubL.nil) (BsOk.h (SubM.nil) (SubL.nil) BsOk.z))))) fun u18=>JR.qt rfl (SubM.nil) (SubL.nil) (Y.fieldB rfl rfl rfl rfl rfl) (HistOk.h (SubM.nil) (SubL.nil) HistOk.z)<|JR.qt rfl (SubM.cons 3 rfl (SubM.nil)) (SubL.nil) (Y.loadB 0 rfl rfl rfl rfl rfl) (HistOk.h (SubM.cons 2 rfl (SubM.nil)) (SubL.nil) HistOk.z)<|JR.qt rfl (SubM.nil) (SubL.nil) (Y.move rfl) (HistOk.h (SubM.nil) (SubL.nil) HistOk.z) ?_
    have h:=ck_some h;obtain⟨hc19,h⟩:=h
    refine JR.know (Know.rws 6 rfl) fun hl20=> ?_
    refine JR.qt rfl (SubM.cons 5 rfl (SubM.nil)) (SubL.nil) (Y.indexA 0 rfl rfl rfl rfl rfl hc19.1 (by have q1:=hc19.2;have q2:=hl20;(try simp only[List.length_set]at q1);(try simp only[List.length_set]at q2);(try simp only[List.length_set]);omega)) (HistOk.h (SubM.cons 4 rfl (SubM.nil)) (SubL.nil) HistOk.z) ?_
    refine JR.know (Know.rws 6 rfl) fun hl21=>JR.qt rfl (SubM.cons 5 rfl (SubM.nil)) (SubL.nil) (Y.loadRaw 0 rfl rfl hl21 rfl rfl hc19) (HistOk.h (SubM.cons 4 rfl (SubM.nil)) (SubL.nil) HistOk.z) ?_
    have h:=ck_some h;obtain⟨hc23,h⟩:=h
    refine JR.loud rfl rfl rfl (Loud.appendL 0 FI64I64p rfl rfl rfl (Lent.row (j:=6) rfl FI64I64p hc19.1 hc19.2) rfl rfl rfl rfl hc23 rfl) rfl (fun u22=>(BsOk.b rfl (BsOk.b rfl (BsOk.b rfl (BsOk.b rfl (BsOk.b rfl (BsOk.b rfl (BsOk.h (SubM.nil) (SubL.nil) (BsOk.h (SubM.cons 3 rfl (SubM.nil)) (SubL.nil) (BsOk.h (SubM.nil) (SubL.nil) BsOk.z)))))))))) fun u22=>JR.tailD 11 rfl rfl ?_
    have h:=ck_some h;obtain⟨hc24,h⟩:=h
    refine J.quiet (Y.indexN rfl rfl (Lent.rows (i:=5) (j:=6) rfl rfl FI64I64p) rfl rfl hc24) rfl<|J.know (Know.one ((Lent.ar (Lent.res 0 rfl) FI64I64p))) fun ho25=>J.stp (Stp.putRow (k:=p3) 6 0 rfl rfl rfl hc24) ?_
    refine J.storeRow 4 5 ⟨hc24.1,by first|exact hc24.2|simpa using hc24.2⟩ rfl rfl rfl rfl rfl (by simp) ho25 rfl ?_
    refine J.done<|J.thenN<|J.ret<|J.thenR ?_
    obtain rfl:=Option.some.inj h
    exact J.retG0 (List.set (List.set w5 (Int.toNat p2) u14) (Int.toNat p3) u22) rfl rfl .ret (.inl rfl) (SubM.cons 4 rfl (SubM.cons 4 rfl (SubM.nil))) LentAll.nil
   ·have h:=ifBN hp9 h
    refine J.skip<|J.thenN ?_
    have h:=ck_some h;obtain⟨hc26,h⟩:=h
    have h:=ck_some h;obtain⟨hc29,h⟩:=h
    have h:=ck_some h;obtain⟨hc34,h⟩:=h
    have h:=ck_some h;obtain⟨hc37,h⟩:=h
    have h:=ck_some h;obtain⟨hc38,h⟩:=h
    have h:=ck_some h;obtain⟨hc39,h⟩:=h
    have h:=ck_some h;obtain⟨hc43,h⟩:=h
    refine JR.orders [0,1,0,0,8,0,0,64,0,448,960,0,2048,8128,0,16384,0,114688,245760,0,524288,2097088,4194247,8388551,16777215,33554431] 24 [[0,1,2,3,4,5,6,7,8,9,10,11,14,15,16,17,18,19,12,13,20,21,22,23,24,25],[0,1,2,3,4,5,6,7,8,9,10,11,14,15,16,17,18,19,12,20,13,21,22,23,24,25],[0,1,2,3,4,5,6,7,8,9,10,11,14,15,16,17,18,19,20,12,13,21,22,23,24,25]] mixedOrders (by decide +kernel) (by decide +kernel) ?_
    intro o ho
    simp only[List.mem_cons,List.not_mem_nil,or_false]at ho
    rcases ho with rfl|rfl|rfl
    ·refine JR.qt rfl (SubM.nil) (SubL.nil) (Y.fieldB rfl rfl rfl rfl rfl) HistOk.z<|JR.qt rfl (SubM.cons 2 rfl (SubM.nil)) (SubL.nil) (Y.loadB 0 rfl rfl rfl rfl rfl) HistOk.z<|JR.qt rfl (SubM.nil) (SubL.nil) (Y.move rfl) HistOk.z<|JR.qt rfl (SubM.nil) (SubL.nil) (Y.fieldB rfl rfl rfl rfl rfl) HistOk.z<|JR.qt rfl (SubM.cons 2 rfl (SubM.nil)) (SubL.nil) (Y.loadB 0 rfl rfl rfl rfl rfl) HistOk.z<|JR.qt rfl (SubM.nil) (SubL.nil) (Y.move rfl) HistOk.z<|JR.qt rfl (SubM.nil) (SubL.nil) (Y.fieldB rfl rfl rfl rfl rfl) HistOk.z<|JR.qt rfl (SubM.cons 2 rfl (SubM.nil)) (SubL.nil) (Y.loadB 0 rfl rfl rfl rfl rfl) HistOk.z<|JR.qt rfl (SubM.nil) (SubL.nil) (Y.move rfl) HistOk.z<|JR.know (Know.rws 5 rfl) fun hl46=> ?_
     refine JR.qt rfl (SubM.cons 4 rfl (SubM.nil)) (SubL.nil) (Y.indexA 0 rfl rfl rfl rfl rfl hc26.1 (by have q1:=hc26.2;have q2:=hl46;(try simp only[List.length_set]at q1);(try simp only[List.length_set]at q2);(try simp only[List.length_set]);omega)) HistOk.z ?_
     refine JR.know (Know.rws 5 rfl) fun hl47=>JR.qt rfl (SubM.cons 4 rfl (SubM.nil)) (SubL.nil) (Y.loadRaw 0 rfl rfl hl47 rfl rfl hc26) HistOk.z<|JR.qt rfl (SubM.cons 1 rfl (SubM.nil)) (SubL.nil) (Y.loadBAll 0 rfl rfl rfl rfl) HistOk.z<|JR.qt rfl (SubM.nil) (SubL.nil) (Y.fieldB rfl rfl rfl rfl rfl) HistOk.z<|JR.qt rfl (SubM.cons 2 rfl (SubM.nil)) (SubL.nil) (Y.loadB 0 rfl rfl rfl rfl rfl) HistOk.z<|JR.qt rfl (SubM.nil) (SubL.nil) (Y.move rfl) HistOk.z<|JR.know (Know.rws 5 rfl) fun hl48=> ?_
     refine JR.qt rfl (SubM.cons 4 rfl (SubM.nil)) (SubL.nil) (Y.indexA 0 rfl rfl rfl rfl rfl hc29.1 (by have q1:=hc29.2;have q2:=hl48;(try simp only[List.length_set]at q1);(try simp only[List.length_set]at q2);(try simp only[List.length_set]);omega)) HistOk.z ?_
     refine JR.know (Know.rws 5 rfl) fun hl49=>JR.qt rfl (SubM.cons 4 rfl (SubM.nil)) (SubL.nil) (Y.loadRaw 0 rfl rfl hl49 rfl rfl hc29) HistOk.z<|JR.qt rfl (SubM.cons 0 rfl (SubM.nil)) (SubL.nil) (Y.loadBAll 0 rfl rfl rfl rfl) HistOk.z<|JR.loud rfl rfl rfl (Loud.buildS (e:=EI64I64p) ([((p3,p4))]) [(0,Value.agg #[Value.int .i64 (p3),Value.int .i64 (p4)])] rfl rfl rfl rfl (fill_1_2 (Value.int .i64 (p3)) (Value.int .i64 (p4))) rfl rfl rfl) rfl (fun u50=>(BsOk.h (SubM.cons 1 rfl (SubM.nil)) (SubL.nil) (BsOk.h (SubM.cons 5 rfl (SubM.nil)) (SubL.nil) (BsOk.h (SubM.cons 5 rfl (SubM.nil)) (SubL.nil) (BsOk.h (SubM.nil) (SubL.nil) (BsOk.h (SubM.cons 3 rfl (SubM.nil)) (SubL.nil) (BsOk.h (SubM.nil) (SubL.nil) (BsOk.b rfl (BsOk.h (SubM.cons 5 rfl (SubM.nil)) (SubL.nil) (BsOk.h (SubM.cons 5 rfl (SubM.nil)) (SubL.nil) (BsOk.h (SubM.nil) (SubL.nil) (BsOk.h (SubM.cons 3 rfl (SubM.nil)) (SubL.nil) (BsOk.h (SubM.nil) (SubL.nil) (BsOk.h (SubM.nil) (SubL.nil) (BsOk.h (SubM.cons 3 rfl (SubM.nil)) (SubL.nil) (BsOk.h (SubM.nil) (SubL.nil) (BsOk.h (SubM.nil) (SubL.nil) (BsOk.h (SubM.cons 3 rfl (SubM.nil)) (SubL.nil) (BsOk.h (SubM.nil) (SubL.nil) BsOk.z))))))))))))))))))) fun u50=>JR.loud rfl rfl rfl (Loud.appendRowL 6 FI64I64p rfl rfl rfl (Lent.ar (Lent.res 0 rfl) FI64I64p) rfl rfl rfl rfl hc26 hc34 rfl) rfl (fun u51=>(BsOk.h (SubM.cons 1 rfl (SubM.nil)) (SubL.nil) (BsOk.h (SubM.cons 5 rfl (SubM.nil)) (SubL.nil) (BsOk.h (SubM.cons 5 rfl (SubM.nil)) (SubL.nil) (BsOk.h (SubM.nil) (SubL.nil) (BsOk.h (SubM.cons 3 rfl (SubM.nil)) (SubL.nil) (BsOk.h (SubM.nil) (SubL.nil) (BsOk.b rfl (BsOk.b rfl (BsOk.b rfl (BsOk.b rfl (BsOk.b rfl (BsOk.b rfl (BsOk.h (SubM.nil) (SubL.nil) (BsOk.h (SubM.cons 3 rfl (SubM.nil)) (SubL.nil) (BsOk.h (SubM.nil) (SubL.nil) (BsOk.h (SubM.nil) (SubL.nil) (BsOk.h (SubM.cons 3 rfl (SubM.nil)) (SubL.nil) (BsOk.h (SubM.nil) (SubL.nil) BsOk.z))))))))))))))))))) fun u51=>JR.loud rfl rfl rfl (Loud.buildS (e:=EI64I64p) ([((p2,p4))]) [(0,Value.agg #[Value.int .i64 (p2),Value.int .i64 (p4)])] rfl rfl rfl rfl (fill_1_2 (Value.int .i64 (p2)) (Value.int .i64 (p4))) rfl rfl rfl) rfl (fun u52=>(BsOk.b rfl (BsOk.h (SubM.cons 6 rfl (SubM.nil)) (SubL.nil) (BsOk.h (SubM.cons 6 rfl (SubM.nil)) (SubL.nil) (BsOk.h (SubM.nil) (SubL.nil) (BsOk.h (SubM.cons 4 rfl (SubM.nil)) (SubL.nil) (BsOk.h (SubM.nil) (SubL.nil) (BsOk.h (SubM.cons 3 rfl (SubM.nil)) (SubL.nil) (BsOk.h (SubM.cons 6 rfl (SubM.nil)) (SubL.nil) (BsOk.h (SubM.cons 6 rfl (SubM.nil)) (SubL.nil) (BsOk.h (SubM.nil) (SubL.nil) (BsOk.h (SubM.cons 4 rfl (SubM.nil)) (SubL.nil) (BsOk.h (SubM.nil) (SubL.nil) (BsOk.h (SubM.nil) (SubL.nil) (BsOk.h (SubM.cons 4 rfl (SubM.nil)) (SubL.nil) (BsOk.h (SubM.nil) (SubL.nil) (BsOk.h (SubM.nil) (SubL.nil) (BsOk.h (SubM.cons 4 rfl (SubM.nil)) (SubL.nil) (BsOk.h (SubM.nil) (SubL.nil) BsOk.z))))))))))))))))))) fun u52=>JR.loud rfl rfl rfl (Loud.appendRow2 (j:=p2) 7 FI64I64p rfl rfl rfl (Lent.ar (Lent.res 0 rfl) FI64I64p) rfl rfl rfl rfl hc29 hc37 rfl hc38) rfl (fun u53=>(BsOk.b rfl (BsOk.b rfl (BsOk.b rfl (BsOk.b rfl (BsOk.b rfl (BsOk.b rfl (BsOk.b rfl (BsOk.b rfl (BsOk.b rfl (BsOk.b rfl (BsOk.b rfl (BsOk.b rfl (BsOk.h (SubM.nil) (SubL.nil) (BsOk.h (SubM.cons 4 rfl (SubM.nil)) (SubL.nil) (BsOk.h (SubM.nil) (SubL.nil) (BsOk.h (SubM.nil) (SubL.nil) (BsOk.h (SubM.cons 4 rfl (SubM.nil)) (SubL.nil) (BsOk.h (SubM.nil) (SubL.nil) BsOk.z))))))))))))))))))) fun u53=>JR.know (Know.rws 7 rfl) fun hl54=> ?_
     refine JR.qt rfl (SubM.cons 6 rfl (SubM.nil)) (SubL.nil) (Y.indexA 0 rfl rfl rfl rfl rfl hc39.1 (by have q1:=hc39.2;have q2:=hl54;(try simp only[List.length_set]at q1);(try simp only[List.length_set]at q2);(try simp only[List.length_set]);omega)) (HistOk.b rfl (HistOk.b rfl (HistOk.b rfl (HistOk.b rfl HistOk.z)))) ?_
     refine JR.know (Know.oneRow2 (k:=p2) (j:=p3) 7 rfl (by omega) ⟨hc39.1,by first|exact hc39.2|simpa using hc39.2⟩) fun ho55=> ?_
     refine JR.loud0 rfl rfl rfl (Loud.storeRow 6 7 ⟨hc39.1,by first|exact hc39.2|simpa using hc39.2⟩ rfl rfl rfl rfl (by simp) ho55 rfl) (fun x56=>(BsOk.b rfl (BsOk.b rfl (BsOk.b rfl (BsOk.b rfl (BsOk.b rfl (BsOk.b rfl (BsOk.b rfl (BsOk.b rfl (BsOk.b rfl (BsOk.b rfl (BsOk.b rfl (BsOk.b rfl (BsOk.b rfl (BsOk.h (SubM.nil) (SubL.nil) (BsOk.h (SubM.cons 4 rfl (SubM.nil)) (SubL.nil) (BsOk.h (SubM.nil) (SubL.nil) (BsOk.b rfl (BsOk.b rfl (BsOk.b rfl BsOk.z)))))))))))))))))))) fun x56=> ?_
     refine JR.tailD 24 rfl rfl<|J.know (Know.rws 7 rfl) fun hl57=> ?_
     refine J.quiet (Y.indexA 6 rfl rfl rfl rfl rfl hc43.1 (by have q1:=hc43.2;have q2:=hl57;(try simp only[List.length_set]at q1);(try simp only[List.length_set]at q2);(try simp only[List.length_set]);omega)) rfl ?_
     refine J.know (Know.oneRow 7 (k:=p3) rfl ⟨hc43.1,by first|exact hc43.2|simpa using hc43.2⟩) fun ho58=> ?_
     refine J.storeRow 6 7 ⟨hc43.1,by first|exact hc43.2|simpa using hc43.2⟩ rfl rfl rfl rfl rfl (by simp) ho58 rfl ?_
     refine J.done ?_
     obtain rfl:=Option.some.inj h
     exact J.retG0 (List.set (List.set w5 (Int.toNat p2) u51) (Int.toNat p3) u53) rfl rfl .normal (.inr rfl) (SubM.cons 6 rfl (SubM.cons 6 rfl (SubM.nil))) LentAll.nil
    ·refine JR.qt rfl (SubM.nil) (SubL.nil) (Y.fieldB rfl rfl rfl rfl rfl) HistOk.z<|JR.qt rfl (SubM.cons 2 rfl (SubM.nil)) (SubL.nil) (Y.loadB 0 rfl rfl rfl rfl rfl) HistOk.z<|JR.qt rfl (SubM.nil) (SubL.nil) (Y.move rfl) HistOk.z<|JR.qt rfl (SubM.nil) (SubL.nil) (Y.fieldB rfl rfl rfl rfl rfl) HistOk.z<|JR.qt rfl (SubM.cons 2 rfl (SubM.nil)) (SubL.nil) (Y.loadB 0 rfl rfl rfl rfl rfl) HistOk.z<|JR.qt rfl (SubM.nil) (SubL.nil) (Y.move rfl) HistOk.z<|JR.qt rfl (SubM.nil) (SubL.nil) (Y.fieldB rfl rfl rfl rfl rfl) HistOk.z<|JR.qt rfl (SubM.cons 2 rfl (SubM.nil)) (SubL.nil) (Y.loadB 0 rfl rfl rfl rfl rfl) HistOk.z<|JR.qt rfl (SubM.nil) (SubL.nil) (Y.move rfl) HistOk.z<|JR.know (Know.rws 5 rfl) fun hl59=> ?_
     refine JR.qt rfl (SubM.cons 4 rfl (SubM.nil)) (SubL.nil) (Y.indexA 0 rfl rfl rfl rfl rfl hc26.1 (by have q1:=hc26.2;have q2:=hl59;(try simp only[List.length_set]at q1);(try simp only[List.length_set]at q2);(try simp only[List.length_set]);omega)) HistOk.z ?_
     refine JR.know (Know.rws 5 rfl) fun hl60=>JR.qt rfl (SubM.cons 4 rfl (SubM.nil)) (SubL.nil) (Y.loadRaw 0 rfl rfl hl60 rfl rfl hc26) HistOk.z<|JR.qt rfl (SubM.cons 1 rfl (SubM.nil)) (SubL.nil) (Y.loadBAll 0 rfl rfl rfl rfl) HistOk.z<|JR.qt rfl (SubM.nil) (SubL.nil) (Y.fieldB rfl rfl rfl rfl rfl) HistOk.z<|JR.qt rfl (SubM.cons 2 rfl (SubM.nil)) (SubL.nil) (Y.loadB 0 rfl rfl rfl rfl rfl) HistOk.z<|JR.qt rfl (SubM.nil) (SubL.nil) (Y.move rfl) HistOk.z<|JR.know (Know.rws 5 rfl) fun hl61=> ?_
     refine JR.qt rfl (SubM.cons 4 rfl (SubM.nil)) (SubL.nil) (Y.indexA 0 rfl rfl rfl rfl rfl hc29.1 (by have q1:=hc29.2;have q2:=hl61;(try simp only[List.length_set]at q1);(try simp only[List.length_set]at q2);(try simp only[List.length_set]);omega)) HistOk.z ?_
     refine JR.know (Know.rws 5 rfl) fun hl62=>JR.qt rfl (SubM.cons 4 rfl (SubM.nil)) (SubL.nil) (Y.loadRaw 0 rfl rfl hl62 rfl rfl hc29) HistOk.z<|JR.qt rfl (SubM.cons 0 rfl (SubM.nil)) (SubL.nil) (Y.loadBAll 0 rfl rfl rfl rfl) HistOk.z<|JR.loud rfl rfl rfl (Loud.buildS (e:=EI64I64p) ([((p3,p4))]) [(0,Value.agg #[Value.int .i64 (p3),Value.int .i64 (p4)])] rfl rfl rfl rfl (fill_1_2 (Value.int .i64 (p3)) (Value.int .i64 (p4))) rfl rfl rfl) rfl (fun u63=>(BsOk.h (SubM.cons 1 rfl (SubM.nil)) (SubL.nil) (BsOk.h (SubM.cons 5 rfl (SubM.nil)) (SubL.nil) (BsOk.h (SubM.cons 5 rfl (SubM.nil)) (SubL.nil) (BsOk.h (SubM.nil) (SubL.nil) (BsOk.h (SubM.cons 3 rfl (SubM.nil)) (SubL.nil) (BsOk.h (SubM.nil) (SubL.nil) (BsOk.b rfl (BsOk.h (SubM.cons 5 rfl (SubM.nil)) (SubL.nil) (BsOk.h (SubM.cons 5 rfl (SubM.nil)) (SubL.nil) (BsOk.h (SubM.nil) (SubL.nil) (BsOk.h (SubM.cons 3 rfl (SubM.nil)) (SubL.nil) (BsOk.h (SubM.nil) (SubL.nil) (BsOk.h (SubM.nil) (SubL.nil) (BsOk.h (SubM.cons 3 rfl (SubM.nil)) (SubL.nil) (BsOk.h (SubM.nil) (SubL.nil) (BsOk.h (SubM.nil) (SubL.nil) (BsOk.h (SubM.cons 3 rfl (SubM.nil)) (SubL.nil) (BsOk.h (SubM.nil) (SubL.nil) BsOk.z))))))))))))))))))) fun u63=>JR.loud rfl rfl rfl (Loud.buildS (e:=EI64I64p) ([((p2,p4))]) [(0,Value.agg #[Value.int .i64 (p2),Value.int .i64 (p4)])] rfl rfl rfl rfl (fill_1_2 (Value.int .i64 (p2)) (Value.int .i64 (p4))) rfl rfl rfl) rfl (fun u64=>(BsOk.b rfl (BsOk.h (SubM.cons 6 rfl (SubM.nil)) (SubL.nil) (BsOk.h (SubM.cons 6 rfl (SubM.nil)) (SubL.nil) (BsOk.h (SubM.nil) (SubL.nil) (BsOk.h (SubM.cons 4 rfl (SubM.nil)) (SubL.nil) (BsOk.h (SubM.nil) (SubL.nil) (BsOk.h (SubM.cons 3 rfl (SubM.nil)) (SubL.nil) (BsOk.h (SubM.cons 6 rfl (SubM.nil)) (SubL.nil) (BsOk.h (SubM.cons 6 rfl (SubM.nil)) (SubL.nil) (BsOk.h (SubM.nil) (SubL.nil) (BsOk.h (SubM.cons 4 rfl (SubM.nil)) (SubL.nil) (BsOk.h (SubM.nil) (SubL.nil) (BsOk.h (SubM.nil) (SubL.nil) (BsOk.h (SubM.cons 4 rfl (SubM.nil)) (SubL.nil) (BsOk.h (SubM.nil) (SubL.nil) (BsOk.h (SubM.nil) (SubL.nil) (BsOk.h (SubM.cons 4 rfl (SubM.nil)) (SubL.nil) (BsOk.h (SubM.nil) (SubL.nil) BsOk.z))))))))))))))))))) fun u64=>JR.loud rfl rfl rfl (Loud.appendRowL 7 FI64I64p rfl rfl rfl (Lent.ar (Lent.res 1 rfl) FI64I64p) rfl rfl rfl rfl hc26 hc34 rfl) rfl (fun u65=>(BsOk.h (SubM.cons 2 rfl (SubM.nil)) (SubL.nil) (BsOk.h (SubM.cons 6 rfl (SubM.nil)) (SubL.nil) (BsOk.h (SubM.cons 6 rfl (SubM.nil)) (SubL.nil) (BsOk.h (SubM.nil) (SubL.nil) (BsOk.h (SubM.cons 4 rfl (SubM.nil)) (SubL.nil) (BsOk.h (SubM.nil) (SubL.nil) (BsOk.b rfl (BsOk.b rfl (BsOk.b rfl (BsOk.b rfl (BsOk.b rfl (BsOk.b rfl (BsOk.h (SubM.nil) (SubL.nil) (BsOk.h (SubM.cons 4 rfl (SubM.nil)) (SubL.nil) (BsOk.h (SubM.nil) (SubL.nil) (BsOk.h (SubM.nil) (SubL.nil) (BsOk.h (SubM.cons 4 rfl (SubM.nil)) (SubL.nil) (BsOk.h (SubM.nil) (SubL.nil) BsOk.z))))))))))))))))))) fun u65=>JR.loud rfl rfl rfl (Loud.appendRow2 (j:=p2) 7 FI64I64p rfl rfl rfl (Lent.ar (Lent.res 0 rfl) FI64I64p) rfl rfl rfl rfl hc29 hc37 rfl hc38) rfl (fun u66=>(BsOk.b rfl (BsOk.b rfl (BsOk.b rfl (BsOk.b rfl (BsOk.b rfl (BsOk.b rfl (BsOk.b rfl (BsOk.b rfl (BsOk.b rfl (BsOk.b rfl (BsOk.b rfl (BsOk.b rfl (BsOk.h (SubM.nil) (SubL.nil) (BsOk.h (SubM.cons 4 rfl (SubM.nil)) (SubL.nil) (BsOk.h (SubM.nil) (SubL.nil) (BsOk.h (SubM.nil) (SubL.nil) (BsOk.h (SubM.cons 4 rfl (SubM.nil)) (SubL.nil) (BsOk.h (SubM.nil) (SubL.nil) BsOk.z))))))))))))))))))) fun u66=>JR.know (Know.rws 7 rfl) fun hl67=> ?_
     refine JR.qt rfl (SubM.cons 6 rfl (SubM.nil)) (SubL.nil) (Y.indexA 0 rfl rfl rfl rfl rfl hc39.1 (by have q1:=hc39.2;have q2:=hl67;(try simp only[List.length_set]at q1);(try simp only[List.length_set]at q2);(try simp only[List.length_set]);omega)) (HistOk.b rfl (HistOk.b rfl (HistOk.b rfl (HistOk.b rfl HistOk.z)))) ?_
     refine JR.know (Know.oneRow2 (k:=p2) (j:=p3) 7 rfl (by omega) ⟨hc39.1,by first|exact hc39.2|simpa using hc39.2⟩) fun ho68=> ?_
     refine JR.loud0 rfl rfl rfl (Loud.storeRow 6 7 ⟨hc39.1,by first|exact hc39.2|simpa using hc39.2⟩ rfl rfl rfl rfl (by simp) ho68 rfl) (fun x69=>(BsOk.b rfl (BsOk.b rfl (BsOk.b rfl (BsOk.b rfl (BsOk.b rfl (BsOk.b rfl (BsOk.b rfl (BsOk.b rfl (BsOk.b rfl (BsOk.b rfl (BsOk.b rfl (BsOk.b rfl (BsOk.b rfl (BsOk.h (SubM.nil) (SubL.nil) (BsOk.h (SubM.cons 4 rfl (SubM.nil)) (SubL.nil) (BsOk.h (SubM.nil) (SubL.nil) (BsOk.b rfl (BsOk.b rfl (BsOk.b rfl BsOk.z)))))))))))))))))))) fun x69=> ?_
     refine JR.tailD 24 rfl rfl<|J.know (Know.rws 7 rfl) fun hl70=> ?_
     refine J.quiet (Y.indexA 6 rfl rfl rfl rfl rfl hc43.1 (by have q1:=hc43.2;have q2:=hl70;(try simp only[List.length_set]at q1);(try simp only[List.length_set]at q2);(try simp only[List.length_set]);omega)) rfl ?_
     refine J.know (Know.oneRow 7 (k:=p3) rfl ⟨hc43.1,by first|exact hc43.2|simpa using hc43.2⟩) fun ho71=> ?_
     refine J.storeRow 6 7 ⟨hc43.1,by first|exact hc43.2|simpa using hc43.2⟩ rfl rfl rfl rfl rfl (by simp) ho71 rfl ?_
     refine J.done ?_
     obtain rfl:=Option.some.inj h
     exact J.retG0 (List.set (List.set w5 (Int.toNat p2) u65) (Int.toNat p3) u66) rfl rfl .normal (.inr rfl) (SubM.cons 6 rfl (SubM.cons 6 rfl (SubM.nil))) LentAll.nil
    ·refine JR.qt rfl (SubM.nil) (SubL.nil) (Y.fieldB rfl rfl rfl rfl rfl) HistOk.z<|JR.qt rfl (SubM.cons 2 rfl (SubM.nil)) (SubL.nil) (Y.loadB 0 rfl rfl rfl rfl rfl) HistOk.z<|JR.qt rfl (SubM.nil) (SubL.nil) (Y.move rfl) HistOk.z<|JR.qt rfl (SubM.nil) (SubL.nil) (Y.fieldB rfl rfl rfl rfl rfl) HistOk.z<|JR.qt rfl (SubM.cons 2 rfl (SubM.nil)) (SubL.nil) (Y.loadB 0 rfl rfl rfl rfl rfl) HistOk.z<|JR.qt rfl (SubM.nil) (SubL.nil) (Y.move rfl) HistOk.z<|JR.qt rfl (SubM.nil) (SubL.nil) (Y.fieldB rfl rfl rfl rfl rfl) HistOk.z<|JR.qt rfl (SubM.cons 2 rfl (SubM.nil)) (SubL.nil) (Y.loadB 0 rfl rfl rfl rfl rfl) HistOk.z<|JR.qt rfl (SubM.nil) (SubL.nil) (Y.move rfl) HistOk.z<|JR.know (Know.rws 5 rfl) fun hl72=> ?_
     refine JR.qt rfl (SubM.cons 4 rfl (SubM.nil)) (SubL.nil) (Y.indexA 0 rfl rfl rfl rfl rfl hc26.1 (by have q1:=hc26.2;have q2:=hl72;(try simp only[List.length_set]at q1);(try simp only[List.length_set]at q2);(try simp only[List.length_set]);omega)) HistOk.z ?_
     refine JR.know (Know.rws 5 rfl) fun hl73=>JR.qt rfl (SubM.cons 4 rfl (SubM.nil)) (SubL.nil) (Y.loadRaw 0 rfl rfl hl73 rfl rfl hc26) HistOk.z<|JR.qt rfl (SubM.cons 1 rfl (SubM.nil)) (SubL.nil) (Y.loadBAll 0 rfl rfl rfl rfl) HistOk.z<|JR.qt rfl (SubM.nil) (SubL.nil) (Y.fieldB rfl rfl rfl rfl rfl) HistOk.z<|JR.qt rfl (SubM.cons 2 rfl (SubM.nil)) (SubL.nil) (Y.loadB 0 rfl rfl rfl rfl rfl) HistOk.z<|JR.qt rfl (SubM.nil) (SubL.nil) (Y.move rfl) HistOk.z<|JR.know (Know.rws 5 rfl) fun hl74=> ?_
     refine JR.qt rfl (SubM.cons 4 rfl (SubM.nil)) (SubL.nil) (Y.indexA 0 rfl rfl rfl rfl rfl hc29.1 (by have q1:=hc29.2;have q2:=hl74;(try simp only[List.length_set]at q1);(try simp only[List.length_set]at q2);(try simp only[List.length_set]);omega)) HistOk.z ?_
     refine JR.know (Know.rws 5 rfl) fun hl75=>JR.qt rfl (SubM.cons 4 rfl (SubM.nil)) (SubL.nil) (Y.loadRaw 0 rfl rfl hl75 rfl rfl hc29) HistOk.z<|JR.qt rfl (SubM.cons 0 rfl (SubM.nil)) (SubL.nil) (Y.loadBAll 0 rfl rfl rfl rfl) HistOk.z<|JR.loud rfl rfl rfl (Loud.buildS (e:=EI64I64p) ([((p2,p4))]) [(0,Value.agg #[Value.int .i64 (p2),Value.int .i64 (p4)])] rfl rfl rfl rfl (fill_1_2 (Value.int .i64 (p2)) (Value.int .i64 (p4))) rfl rfl rfl) rfl (fun u76=>(BsOk.b rfl (BsOk.h (SubM.cons 5 rfl (SubM.nil)) (SubL.nil) (BsOk.h (SubM.cons 5 rfl (SubM.nil)) (SubL.nil) (BsOk.h (SubM.nil) (SubL.nil) (BsOk.h (SubM.cons 3 rfl (SubM.nil)) (SubL.nil) (BsOk.h (SubM.nil) (SubL.nil) (BsOk.h (SubM.cons 2 rfl (SubM.nil)) (SubL.nil) (BsOk.h (SubM.cons 5 rfl (SubM.nil)) (SubL.nil) (BsOk.h (SubM.cons 5 rfl (SubM.nil)) (SubL.nil) (BsOk.h (SubM.nil) (SubL.nil) (BsOk.h (SubM.cons 3 rfl (SubM.nil)) (SubL.nil) (BsOk.h (SubM.nil) (SubL.nil) (BsOk.h (SubM.nil) (SubL.nil) (BsOk.h (SubM.cons 3 rfl (SubM.nil)) (SubL.nil) (BsOk.h (SubM.nil) (SubL.nil) (BsOk.h (SubM.nil) (SubL.nil) (BsOk.h (SubM.cons 3 rfl (SubM.nil)) (SubL.nil) (BsOk.h (SubM.nil) (SubL.nil) BsOk.z))))))))))))))))))) fun u76=>JR.loud rfl rfl rfl (Loud.buildS (e:=EI64I64p) ([((p3,p4))]) [(0,Value.agg #[Value.int .i64 (p3),Value.int .i64 (p4)])] rfl rfl rfl rfl (fill_1_2 (Value.int .i64 (p3)) (Value.int .i64 (p4))) rfl rfl rfl) rfl (fun u77=>(BsOk.h (SubM.cons 2 rfl (SubM.nil)) (SubL.nil) (BsOk.h (SubM.cons 6 rfl (SubM.nil)) (SubL.nil) (BsOk.h (SubM.cons 6 rfl (SubM.nil)) (SubL.nil) (BsOk.h (SubM.nil) (SubL.nil) (BsOk.h (SubM.cons 4 rfl (SubM.nil)) (SubL.nil) (BsOk.h (SubM.nil) (SubL.nil) (BsOk.b rfl (BsOk.h (SubM.cons 6 rfl (SubM.nil)) (SubL.nil) (BsOk.h (SubM.cons 6 rfl (SubM.nil)) (SubL.nil) (BsOk.h (SubM.nil) (SubL.nil) (BsOk.h (SubM.cons 4 rfl (SubM.nil)) (SubL.nil) (BsOk.h (SubM.nil) (SubL.nil) (BsOk.h (SubM.nil) (SubL.nil) (BsOk.h (SubM.cons 4 rfl (SubM.nil)) (SubL.nil) (BsOk.h (SubM.nil) (SubL.nil) (BsOk.h (SubM.nil) (SubL.nil) (BsOk.h (SubM.cons 4 rfl (SubM.nil)) (SubL.nil) (BsOk.h (SubM.nil) (SubL.nil) BsOk.z))))))))))))))))))) fun u77=>JR.loud rfl rfl rfl (Loud.appendRowL 7 FI64I64p rfl rfl rfl (Lent.ar (Lent.res 0 rfl) FI64I64p) rfl rfl rfl rfl hc26 hc34 rfl) rfl (fun u78=>(BsOk.h (SubM.cons 2 rfl (SubM.nil)) (SubL.nil) (BsOk.h (SubM.cons 6 rfl (SubM.nil)) (SubL.nil) (BsOk.h (SubM.cons 6 rfl (SubM.nil)) (SubL.nil) (BsOk.h (SubM.nil) (SubL.nil) (BsOk.h (SubM.cons 4 rfl (SubM.nil)) (SubL.nil) (BsOk.h (SubM.nil) (SubL.nil) (BsOk.b rfl (BsOk.b rfl (BsOk.b rfl (BsOk.b rfl (BsOk.b rfl (BsOk.b rfl (BsOk.h (SubM.nil) (SubL.nil) (BsOk.h (SubM.cons 4 rfl (SubM.nil)) (SubL.nil) (BsOk.h (SubM.nil) (SubL.nil) (BsOk.h (SubM.nil) (SubL.nil) (BsOk.h (SubM.cons 4 rfl (SubM.nil)) (SubL.nil) (BsOk.h (SubM.nil) (SubL.nil) BsOk.z))))))))))))))))))) fun u78=>JR.loud rfl rfl rfl (Loud.appendRow2 (j:=p2) 7 FI64I64p rfl rfl rfl (Lent.ar (Lent.res 1 rfl) FI64I64p) rfl rfl rfl rfl hc29 hc37 rfl hc38) rfl (fun u79=>(BsOk.b rfl (BsOk.b rfl (BsOk.b rfl (BsOk.b rfl (BsOk.b rfl (BsOk.b rfl (BsOk.b rfl (BsOk.b rfl (BsOk.b rfl (BsOk.b rfl (BsOk.b rfl (BsOk.b rfl (BsOk.h (SubM.nil) (SubL.nil) (BsOk.h (SubM.cons 4 rfl (SubM.nil)) (SubL.nil) (BsOk.h (SubM.nil) (SubL.nil) (BsOk.h (SubM.nil) (SubL.nil) (BsOk.h (SubM.cons 4 rfl (SubM.nil)) (SubL.nil) (BsOk.h (SubM.nil) (SubL.nil) BsOk.z))))))))))))))))))) fun u79=>JR.know (Know.rws 7 rfl) fun hl80=> ?_
     refine JR.qt rfl (SubM.cons 6 rfl (SubM.nil)) (SubL.nil) (Y.indexA 0 rfl rfl rfl rfl rfl hc39.1 (by have q1:=hc39.2;have q2:=hl80;(try simp only[List.length_set]at q1);(try simp only[List.length_set]at q2);(try simp only[List.length_set]);omega)) (HistOk.b rfl (HistOk.b rfl (HistOk.b rfl (HistOk.b rfl HistOk.z)))) ?_
     refine JR.know (Know.oneRow2 (k:=p2) (j:=p3) 7 rfl (by omega) ⟨hc39.1,by first|exact hc39.2|simpa using hc39.2⟩) fun ho81=> ?_
     refine JR.loud0 rfl rfl rfl (Loud.storeRow 6 7 ⟨hc39.1,by first|exact hc39.2|simpa using hc39.2⟩ rfl rfl rfl rfl (by simp) ho81 rfl) (fun x82=>(BsOk.b rfl (BsOk.b rfl (BsOk.b rfl (BsOk.b rfl (BsOk.b rfl (BsOk.b rfl (BsOk.b rfl (BsOk.b rfl (BsOk.b rfl (BsOk.b rfl (BsOk.b rfl (BsOk.b rfl (BsOk.b rfl (BsOk.h (SubM.nil) (SubL.nil) (BsOk.h (SubM.cons 4 rfl (SubM.nil)) (SubL.nil) (BsOk.h (SubM.nil) (SubL.nil) (BsOk.b rfl (BsOk.b rfl (BsOk.b rfl BsOk.z)))))))))))))))))))) fun x82=> ?_
     refine JR.tailD 24 rfl rfl<|J.know (Know.rws 7 rfl) fun hl83=> ?_
     refine J.quiet (Y.indexA 6 rfl rfl rfl rfl rfl hc43.1 (by have q1:=hc43.2;have q2:=hl83;(try simp only[List.length_set]at q1);(try simp only[List.length_set]at q2);(try simp only[List.length_set]);omega)) rfl ?_
     refine J.know (Know.oneRow 7 (k:=p3) rfl ⟨hc43.1,by first|exact hc43.2|simpa using hc43.2⟩) fun ho84=> ?_
     refine J.storeRow 6 7 ⟨hc43.1,by first|exact hc43.2|simpa using hc43.2⟩ rfl rfl rfl rfl rfl (by simp) ho84 rfl ?_
     refine J.done ?_
     obtain rfl:=Option.some.inj h
     exact J.retG0 (List.set (List.set w5 (Int.toNat p2) u78) (Int.toNat p3) u79) rfl rfl .normal (.inr rfl) (SubM.cons 6 rfl (SubM.cons 6 rfl (SubM.nil))) LentAll.nil
end Go.Proofs.YtfbkplemadmbfaaGreatDoor
end
section
namespace Go.Proofs.YtfbkplemadmbfaaGreatDoor
open Go.Sx
def _world_Net__Tree_k1 (r3:(List (Int)×(List (List (Int×Int))))) (a11:(List (List (Int×Int)))):Option ((List (Int)×(List (List (Int×Int))))):=
 some ((r3.1,a11))
def _world_Net__Tree_s1 (fuel:Nat) (p0:Int×List (Int)×List (Int)×List (Int)×Bool×Bool) (r3:(List (Int)×(List (List (Int×Int))))) (a19:Int×(List (List (Int×Int)))) (ag18:(Int×(List (List (Int×Int))))->Option ((List (Int)×(List (List (Int×Int)))))):Option ((List (Int)×(List (List (Int×Int))))):=
 if a19.1<(List.length a19.2:Int)then(Option.bind (m_world_at fuel p0.2.1 (wI .i64 (a19.1 - (1:Int)))) fun r23=>(Option.bind (m_world_Within fuel r23 a19.1) fun r26=>(Option.bind (m_world_at fuel p0.2.2.1 (wI .i64 (a19.1 - (1:Int)))) fun r29=>(Option.bind (m_world_Within fuel r29 (15:Int)) fun r32=>(Option.bind (m__world_Net__link fuel ((p0.1,p0.2.1,p0.2.2.1,p0.2.2.2.1,p0.2.2.2.2.1,p0.2.2.2.2.2)) ((r3.1,a19.2)) r26 a19.1 (wI .i64 ((1:Int)+r32))) fun r35=>(ag18 ((wI .i64 (a19.1+(1:Int))),r35)))))))else(_world_Net__Tree_k1 r3 (a19.2))
def m__world_Net__Tree (fuel:Nat) (p0:Int×List (Int)×List (Int)×List (Int)×Bool×Bool) (p1:Int):Option ((List (Int)×(List (List (Int×Int))))):=
 Option.bind (m__world_Net__nodes fuel ((p0.1,p0.2.1,p0.2.2.1,p0.2.2.2.1,p0.2.2.2.2.1,p0.2.2.2.2.2)) p1) fun r3=>(iter (_world_Net__Tree_s1 fuel p0 r3) fuel ((1:Int),r3.2))
theorem body28:HasBody Tryz.prog 28:=Tryz.call28
theorem t__world_Net__Tree (fuel:Nat) {p0:Int×List (Int)×List (Int)×List (Int)×Bool×Bool} {p1:Int} (v0:Value)  (v1:Value)  (v2:Value) (r:(List (Int)×(List (List (Int×Int))))) (h:m__world_Net__Tree fuel p0 p1=some r):
  Meets Tryz.prog 28 #[Value.agg #[Value.int .i64 (p0.1),v0,v1,v2,Value.bool (p0.2.2.2.2.1),Value.bool (p0.2.2.2.2.2)],Value.int .i64 (p1)] [Sl RI64 v0 p0.2.1,Sl RI64 v1 p0.2.2.1,Sl RI64 v2 p0.2.2.2.1] (fun x:Value×Value×List Value=>Value.agg #[x.1,x.2.1]) (fun x l=>Ar EI64 x.1 r.1::Ar Enc.raw x.2.1 x.2.2::Rws EI64I64p x.2.2 r.2::l) (fun _ l=>l):=by
 refine Meets.of (vs:=[Value.agg #[Value.int .i64 (p0.1),v0,v1,v2,Value.bool (p0.2.2.2.2.1),Value.bool (p0.2.2.2.2.2)],Value.int .i64 (p1)]) Tryz.func28 rfl Tryz.ntmps28 rfl fun c=> ?_
 unfold m__world_Net__Tree at h
 refine J.seq<|J.region<|J.loud (Loud.box (cs:=[Value.int .i64 (p0.1),v0,v1,v2,Value.bool (p0.2.2.2.2.1),Value.bool (p0.2.2.2.2.2)]) rfl rfl) rfl fun b1=>J.loud (Loud.alloc (cs:=[Value.slice none 0 0,Value.slice none 0 0]) rfl rfl) rfl fun b2=>J.done<|J.thenN<|J.seq<|J.region<|J.quiet (Y.loadBAll 1 rfl rfl rfl rfl) rfl<|J.quiet (Y.move rfl) rfl ?_
 have h:=bnd h;obtain⟨r3,hr4,h⟩:=h
 refine J.loud (Loud.callL body62 (t__world_Net__nodes fuel v0 v1 v2 r3 hr4) rfl (LentAll.cons (Lent.fact 0 rfl) (LentAll.cons (Lent.fact 1 rfl) (LentAll.cons (Lent.fact 2 rfl) .nil))) (fun _ _=>rfl)) rfl fun x5=>J.loud (Loud.alloc (cs:=[Value.slice none 0 0,Value.slice none 0 0]) rfl rfl) rfl fun b6=>J.know (Know.one ((Lent.ar (Lent.res 1 rfl) FI64))) fun ho7=>J.know (Know.one (Lent.sl (Lent.rows (i:=2) (j:=3) rfl rfl FI64I64p))) fun ho8=>J.storeAll 0 (vs:=[x5.1,x5.2.1]) rfl rfl (all1 ho7 (all1 ho8 rfl)) rfl rfl rfl<|J.done<|J.thenN<|J.seq<|J.midI (A:=(List (List (Int×Int)))) (B:=List Value) (fun a11=>_world_Net__Tree_k1 r3 a11=some r) (fun a11 b12=>[(4,Value.pointer (some ⟨b2,0,none⟩)),(5,Value.pointer (some ⟨b6,0,none⟩))]) (fun a11 b12=>[Blk b6 [x5.1,x5.2.1] 25,Ar EI64 x5.1 r3.1,Ar Enc.raw x5.2.1 b12,Rws EI64I64p b12 a11,Blk b2 [Value.slice none 0 0,Value.slice none 0 0] 25]) (fun a11 b12=>[Sl RI64 v0 p0.2.1,Sl RI64 v1 p0.2.2.1,Sl RI64 v2 p0.2.2.2.1]) ?_ ?_
 ·refine J.seq<|J.region<|J.quiet (Y.assign rfl) rfl<|J.done<|J.thenN<|J.block<|J.loopI (A:=Int×(List (List (Int×Int)))) (B:=List Value) (_world_Net__Tree_s1 fuel p0 r3) (fun a19 b20=>[(2,Value.pointer (some ⟨b1,0,none⟩)),(4,Value.pointer (some ⟨b2,0,none⟩)),(5,Value.pointer (some ⟨b6,0,none⟩)),(6,Value.int .i64 (a19.1))]) (fun a19 b20=>[Blk b6 [x5.1,x5.2.1] 25,Ar EI64 x5.1 r3.1,Ar Enc.raw x5.2.1 b20,Rws EI64I64p b20 a19.2,Blk b2 [Value.slice none 0 0,Value.slice none 0 0] 25,Blk b1 [Value.int .i64 (p0.1),v0,v1,v2,Value.bool (p0.2.2.2.2.1),Value.bool (p0.2.2.2.2.2)] 38]) (fun a19 b20=>[Sl RI64 v0 p0.2.1,Sl RI64 v1 p0.2.2.1,Sl RI64 v2 p0.2.2.2.1]) ((1:Int),r3.2) (x5.2.2) h SF (SubM.refl _) (LentAll.refl _ _) ?_
  clear h
  intro k21 a19 b20 h
  unfold _world_Net__Tree_s1 at h
  refine J.seq<|J.seq<|J.region<|J.quiet (Y.move rfl) rfl<|J.quiet (Y.fieldB rfl rfl rfl rfl rfl) rfl<|J.quiet (Y.loadB 0 rfl rfl rfl rfl rfl) rfl<|J.quiet (Y.lenN rfl (Lent.rows (i:=2) (j:=3) rfl rfl FI64I64p) rfl) rfl<|J.quiet (Y.lss rfl rfl) rfl<|J.done<|J.thenN ?_
  refine J.condD (by exact rfl) (fun hp22=> ?_) (fun hp22=> ?_)
  ·have h:=ifP hp22 h
   refine J.skip<|J.thenN<|J.seq<|J.block ?_
   refine JR.start [0,0,0,4,0,16,60,0,252,0,0,1024,0,4096,15868,32252,65020,131071] 17 mixedOrders (by decide +kernel) ?_
   refine JR.open (by exact rfl) ?_
   refine JR.qt rfl (SubM.cons 5 rfl (SubM.nil)) (SubL.nil) (Y.loadBAll 0 rfl rfl rfl rfl) HistOk.z<|JR.qt rfl (SubM.cons 0 rfl (SubM.nil)) (SubL.nil) (Y.loadBAll 0 rfl rfl rfl rfl) HistOk.z<|JR.qt rfl (SubM.nil) (SubL.nil) (Y.fieldB rfl rfl rfl rfl rfl) HistOk.z<|JR.qt rfl (SubM.cons 5 rfl (SubM.nil)) (SubL.nil) (Y.loadB 0 rfl rfl rfl rfl rfl) HistOk.z<|JR.qt rfl (SubM.nil) (SubL.nil) (Y.move rfl) HistOk.z<|JR.qt rfl (SubM.nil) (SubL.nil) (Y.subW rfl rfl) HistOk.z ?_
   have h:=bnd h;obtain⟨r23,hr24,h⟩:=h
   refine JR.loud rfl rfl rfl (Loud.callL body65 (t_world_at fuel v0 r23 hr24) rfl (LentAll.cons (Lent.fact 0 rfl) .nil) (fun _ _=>rfl)) rfl (fun x25=>(BsOk.b rfl (BsOk.b rfl (BsOk.b rfl (BsOk.b rfl (BsOk.h (SubM.cons 0 rfl (SubM.nil)) (SubL.nil) (BsOk.h (SubM.cons 5 rfl (SubM.nil)) (SubL.nil) BsOk.z))))))) fun x25=>JR.qt rfl (SubM.nil) (SubL.nil) (Y.move rfl) (HistOk.h (SubM.nil) (SubL.nil) HistOk.z) ?_
   have h:=bnd h;obtain⟨r26,hr27,h⟩:=h
   refine JR.loud rfl rfl rfl (Loud.callL body64 (t_world_Within fuel  r26 hr27) rfl .nil (fun _ _=>rfl)) rfl (fun x28=>(BsOk.b rfl (BsOk.b rfl (BsOk.b rfl (BsOk.b rfl (BsOk.b rfl (BsOk.h (SubM.cons 0 rfl (SubM.nil)) (SubL.nil) (BsOk.h (SubM.cons 5 rfl (SubM.nil)) (SubL.nil) BsOk.z)))))))) fun x28=>JR.qt rfl (SubM.nil) (SubL.nil) (Y.move rfl) (HistOk.h (SubM.nil) (SubL.nil) (HistOk.h (SubM.nil) (SubL.nil) HistOk.z))<|JR.qt rfl (SubM.nil) (SubL.nil) (Y.fieldB rfl rfl rfl rfl rfl) (HistOk.h (SubM.nil) (SubL.nil) (HistOk.h (SubM.nil) (SubL.nil) HistOk.z))<|JR.qt rfl (SubM.cons 5 rfl (SubM.nil)) (SubL.nil) (Y.loadB 0 rfl rfl rfl rfl rfl) (HistOk.h (SubM.cons 5 rfl (SubM.nil)) (SubL.nil) (HistOk.h (SubM.cons 5 rfl (SubM.nil)) (SubL.nil) HistOk.z))<|JR.qt rfl (SubM.nil) (SubL.nil) (Y.move rfl) (HistOk.h (SubM.nil) (SubL.nil) (HistOk.h (SubM.nil) (SubL.nil) HistOk.z))<|JR.qt rfl (SubM.nil) (SubL.nil) (Y.subW rfl rfl) (HistOk.h (SubM.nil) (SubL.nil) (HistOk.h (SubM.nil) (SubL.nil) HistOk.z)) ?_
   have h:=bnd h;obtain⟨r29,hr30,h⟩:=h
   refine JR.loud rfl rfl rfl (Loud.callL body65 (t_world_at fuel v1 r29 hr30) rfl (LentAll.cons (Lent.fact 1 rfl) .nil) (fun _ _=>rfl)) rfl (fun x31=>(BsOk.b rfl (BsOk.b rfl (BsOk.b rfl (BsOk.b rfl (BsOk.h (SubM.nil) (SubL.nil) (BsOk.b rfl (BsOk.b rfl (BsOk.b rfl (BsOk.b rfl (BsOk.b rfl (BsOk.h (SubM.cons 0 rfl (SubM.nil)) (SubL.nil) (BsOk.h (SubM.cons 5 rfl (SubM.nil)) (SubL.nil) BsOk.z))))))))))))) fun x31=> ?_
   have h:=bnd h;obtain⟨r32,hr33,h⟩:=h
   refine JR.loud rfl rfl rfl (Loud.callL body64 (t_world_Within fuel  r32 hr33) rfl .nil (fun _ _=>rfl)) rfl (fun x34=>(BsOk.b rfl (BsOk.b rfl (BsOk.b rfl (BsOk.b rfl (BsOk.h (SubM.nil) (SubL.nil) (BsOk.b rfl (BsOk.b rfl (BsOk.b rfl (BsOk.b rfl (BsOk.b rfl (BsOk.h (SubM.cons 0 rfl (SubM.nil)) (SubL.nil) (BsOk.h (SubM.cons 5 rfl (SubM.nil)) (SubL.nil) BsOk.z))))))))))))) fun x34=>JR.qt rfl (SubM.nil) (SubL.nil) (Y.addW rfl rfl) (HistOk.b rfl (HistOk.b rfl (HistOk.b rfl (HistOk.b rfl HistOk.z))))<|JR.tailD 17 rfl rfl ?_
   have h:=bnd h;obtain⟨r35,hr36,h⟩:=h
   refine J.loud (Loud.callM (Min:=[Ar Enc.raw x5.2.1 b20,Rws EI64I64p b20 a19.2]) (Mr:=[Blk b6 [x5.1,x5.2.1] 25,Ar EI64 x5.1 r3.1,Blk b2 [Value.slice none 0 0,Value.slice none 0 0] 25,Blk b1 [Value.int .i64 (p0.1),v0,v1,v2,Value.bool (p0.2.2.2.2.1),Value.bool (p0.2.2.2.2.2)] 38]) body63 (t__world_Net__link fuel v0 v1 v2 x5.1 x5.2.1 b20 r35 hr36) rfl (SubM.cons 2 rfl (SubM.cons 2 rfl (SubM.cons 0 rfl (SubM.cons 0 rfl (SubM.cons 0 rfl (SubM.cons 0 rfl (SubM.nil))))))) (LentAll.cons (Lent.fact 0 rfl) (LentAll.cons (Lent.fact 1 rfl) (LentAll.cons (Lent.fact 2 rfl) (LentAll.cons (Lent.ar (Lent.res 1 rfl) FI64) .nil)))) (fun _ _=>rfl)) rfl fun x37=>J.done<|J.inN<|J.thenN<|J.region<|J.quiet (Y.move rfl) rfl<|J.quiet (Y.addW rfl rfl) rfl<|J.quiet (Y.assign rfl) rfl<|J.done<|J.thenN ?_
   exact J.againI ((wI .i64 (a19.1+(1:Int))),r35) (x37) h SF (SubM.cons 2 rfl (SubM.cons 2 rfl (SubM.cons 0 rfl (SubM.cons 0 rfl (SubM.cons 0 rfl (SubM.cons 0 rfl (SubM.nil))))))) (LentAll.refl _ _)
  ·have h:=ifN hp22 h
   refine J.exit<|J.thenX<|J.thenX<|J.inX<|J.thenN ?_
   exact J.meetI (a19.2) (b20) h SF (SubM.cons 0 rfl (SubM.cons 0 rfl (SubM.cons 0 rfl (SubM.cons 0 rfl (SubM.cons 0 rfl (SubM.nil)))))) (LentAll.refl _ _)
 ·clear h
  intro a11 b12 h
  unfold _world_Net__Tree_k1 at h
  refine J.seq<|J.region<|J.quiet (Y.loadBAll 0 rfl rfl rfl rfl) rfl<|J.know (Know.one ((Lent.ar (Lent.res 1 rfl) FI64))) fun ho13=>J.know (Know.one (Lent.sl (Lent.rows (i:=2) (j:=3) rfl rfl FI64I64p))) fun ho14=>J.storeAll 4 (vs:=[x5.1,x5.2.1]) rfl rfl (all1 ho13 (all1 ho14 rfl)) rfl rfl rfl<|J.done<|J.thenN<|J.ret ?_
  obtain rfl:=Option.some.inj h
  exact J.retG1 (x5.1,x5.2.1,b12) rfl rfl (RV.cell 4 rfl rfl rfl rfl) (SubM.cons 1 rfl (SubM.cons 1 rfl (SubM.cons 1 rfl (SubM.nil)))) LentAll.nil
end Go.Proofs.YtfbkplemadmbfaaGreatDoor
end
section
namespace Go.Proofs.YtfbkplemadmbfaaGreatDoor
open Go.Sx
def m_bits_TrailingZeros32 (fuel:Nat) (p0:Int):Option (Int):=
 if p0=(0:Int)then(some (32:Int))else(ck (0<=(27:Int)) (ck ((0<=(bShr .u32 (wI .u32 ((bAnd .u32 p0 (wI .u32 (0 - p0)))*(125613361:Int))) (27:Int))∧(bShr .u32 (wI .u32 ((bAnd .u32 p0 (wI .u32 (0 - p0)))*(125613361:Int))) (27:Int))<((32:Nat):Int))∧List.length tab0=32) (some (wI .i64 (at' tab0 (bShr .u32 (wI .u32 ((bAnd .u32 p0 (wI .u32 (0 - p0)))*(125613361:Int))) (27:Int)))))))
theorem body172:HasBody Tryz.prog 172:=Tryz.call172
theorem t_bits_TrailingZeros32 (fuel:Nat) {p0:Int} (r:Int) (h:m_bits_TrailingZeros32 fuel p0=some r):
  Meets Tryz.prog 172 #[Value.int .u32 (p0)] [Gb 0 (cellsOf EU8 tab0)] (fun x:Unit=>Value.int .i64 (r)) (fun x l=>l) (fun _ l=>l):=by
 refine Meets.of (vs:=[Value.int .u32 (p0)]) Tryz.func172 rfl Tryz.ntmps172 rfl fun c=> ?_
 unfold m_bits_TrailingZeros32 at h
 refine J.seq<|J.region<|J.quiet (Y.assign rfl) rfl<|J.done<|J.thenN<|J.seq<|J.seq<|J.region<|J.quiet (Y.move rfl) rfl<|J.quiet (Y.eql rfl rfl) rfl<|J.done<|J.thenN ?_
 refine J.condD (by exact rfl) (fun hp1=> ?_) (fun hp1=> ?_)
 ·have h:=ifP hp1 h
  refine J.seq<|J.region<|J.quiet (Y.assign rfl) rfl<|J.done<|J.thenN<|J.ret<|J.thenR ?_
  obtain rfl:=Option.some.inj h
  exact J.retG1 (()) rfl rfl (RV.tmp rfl) (SubM.refl _) LentAll.nil
 ·have h:=ifN hp1 h
  refine J.skip<|J.thenN<|J.seq<|J.region<|J.quiet (Y.move rfl) rfl<|J.quiet (Y.move rfl) rfl<|J.quiet (Y.neg rfl) rfl<|J.quiet (Y.and rfl rfl) rfl<|J.quiet (Y.mulW rfl rfl) rfl ?_
  have h:=ck_some h;obtain⟨hc2,h⟩:=h
  refine J.quiet (Y.shr rfl rfl hc2) rfl ?_
  have h:=ck_some h;obtain⟨hc3,h⟩:=h
  refine J.quiet (Y.indexArrK rfl rfl rfl rfl rfl hc3.1) rfl<|J.quiet (Y.loadGlb (e:=EU8) rfl (Lent.fact 0 rfl) rfl rfl rfl rfl hc3) rfl<|J.quiet (Y.conv rfl rfl rfl) rfl<|J.quiet (Y.assign rfl) rfl<|J.done<|J.thenN<|J.ret ?_
  obtain rfl:=Option.some.inj h
  exact J.retG1 (()) rfl rfl (RV.tmp rfl) (SubM.refl _) LentAll.nil
end Go.Proofs.YtfbkplemadmbfaaGreatDoor
end
section
namespace Go.Proofs.YtfbkplemadmbfaaGreatDoor
open Go.Sx
def _daemon_Net__independent_k1  (a7:Unit):Option (Bool):=
 some (true)
def _daemon_Net__independent_s1 (fuel:Nat) (p0:List (Int)) (p1:Int) (a18:Int) (ag17:(Int)->Option (Bool)):Option (Bool):=
 if a18≠(0:Int)then(Option.bind (m_bits_TrailingZeros32 fuel a18) fun r22=>(ck (0<=r22∧r22<(List.length p0:Int)) (if(bAnd .u32 (at' p0 r22) p1)≠(0:Int)then(some (false))else(ag17 (bAnd .u32 a18 (wI .u32 (a18 - (1:Int))))))))else(_daemon_Net__independent_k1  (()))
def _daemon_Net__independent_k2 (fuel:Nat) (p0:List (Int)) (p1:Int) (a10:Unit):Option (Bool):=
 iter (_daemon_Net__independent_s1 fuel p0 p1) fuel (p1)
def m__daemon_Net__independent (fuel:Nat) (p0:List (Int)) (p1:Int):Option (Bool):=
 _daemon_Net__independent_k2 fuel p0 p1 (())
theorem body166:HasBody Tryz.prog 166:=Tryz.call166
theorem t__daemon_Net__independent (fuel:Nat) {p0:List (Int)} {p1:Int} (v0:Value) (r:Bool) (h:m__daemon_Net__independent fuel p0 p1=some r):
  Meets Tryz.prog 166 #[v0,Value.int .u32 (p1)] [Sl RU32 v0 p0,Gb 0 (cellsOf EU8 tab0)] (fun x:Unit=>Value.bool (r)) (fun x l=>l) (fun _ l=>l):=by
 refine Meets.of (vs:=[v0,Value.int .u32 (p1)]) Tryz.func166 rfl Tryz.ntmps166 rfl fun c=> ?_
 unfold m__daemon_Net__independent at h
 refine J.stp Stp.dfs0<|J.seq<|J.region<|J.know (Know.one ((Lent.fact 0 rfl))) fun ho3=> ?_
 refine J.loud (Loud.box (cs:=[v0]) rfl (by rw[one_cells ho3])) rfl fun b2=> ?_
 refine J.loud (Loud.box (cs:=[Value.int .u32 (p1)]) rfl rfl) rfl fun b4=>J.loud (Loud.alloc (cs:=[Value.bool (false)]) rfl rfl) rfl fun b5=>J.done<|J.thenN<|J.seq<|J.midN (A:=Unit) (B:=List Nat) (fun a7 b8=>⟨16,marks b8⟩) (fun a7=>_daemon_Net__independent_k1  a7=some r) (fun a7 b8=>[(4,Value.pointer (some ⟨b5,0,none⟩))]) (fun a7 b8=>[Blk b5 [Value.bool (false)] 4,Dfs b8]) (fun a7 b8=>[Sl RU32 v0 p0,Gb 0 (cellsOf EU8 tab0)]) ?_ ?_
 ·refine J.seq<|J.region<|J.quiet (Y.loadB 1 rfl rfl rfl rfl rfl) rfl<|J.inlC (A:=Unit) (B:=Nat) (vs:=[Value.int .u32 (p1)]) (fun a10=>_daemon_Net__independent_k2 fuel p0 p1 a10=some r) (fun a10 b11=>Value.func (.func 171) #[] #[Value.pointer (some ⟨b11,0,none⟩)]) (fun a10 b11=>[Blk b11 [Value.int .u32 (p1)] 26,Blk b5 [Value.bool (false)] 4,Blk b4 [Value.int .u32 (p1)] 26,Blk b2 [v0] 93,Dfs ([]:List Nat)]) (fun a10 b11=>[Sl RU32 v0 p0,Gb 0 (cellsOf EU8 tab0)]) (Enter.fn (show HasBody Tryz.prog 138 from Tryz.call138) rfl) Tryz.func138 rfl Tryz.ntmps138 rfl rfl ?_ ?_
  ·refine J.seq<|J.region<|J.loud (Loud.box (cs:=[Value.int .u32 (p1)]) rfl rfl) rfl fun b27=>J.quiet (Y.assign rfl) rfl<|J.done<|J.thenN<|J.seq<|J.region<|J.quiet (Y.makeFunc (cs:=[.tmp 1]) (vs:=[Value.pointer (some ⟨b27,0,none⟩)]) rfl) rfl<|J.quiet (Y.assign rfl) rfl<|J.done<|J.thenN<|J.ret ?_
   exact J.retM (()) (b27) h (.inl rfl) (Res.r1 rfl (RV.tmp rfl)) rfl (SubM.refl _) (LentAll.refl _ _)
  ·clear h
   intro a10 b11 h
   unfold _daemon_Net__independent_k2 at h
   refine J.done<|J.thenN<|J.block<|J.rangeFuncD (i:=4) (cs:=[Value.pointer (some ⟨b11,0,none⟩)]) ([]:List Nat) rfl (show HasBody Tryz.prog 171 from Tryz.call171) rfl Tryz.func171 rfl Tryz.ntmps171 rfl fun l12 D13 R14 hR15=>J.block<|J.loopI (A:=Int) (B:=Unit) (_daemon_Net__independent_s1 fuel p0 p1) (fun a18 b19=>[(0,yieldV l12),(1,Value.pointer (some ⟨b11,0,none⟩))]) (fun a18 b19=>[Lp l12 R14 LoopState.ready none,Blk b11 [Value.int .u32 (a18)] 26,Blk b5 [Value.bool (false)] 4,Blk b4 [Value.int .u32 (p1)] 26,Blk b2 [v0] 93,Dfs (List.cons D13 ([]:List Nat))]) (fun a18 b19=>[Sl RU32 v0 p0,Gb 0 (cellsOf EU8 tab0)]) (p1) (()) h SF (SubM.refl _) (LentAll.refl _ _) ?_
   clear h
   intro k20 a18 b19 h
   unfold _daemon_Net__independent_s1 at h
   refine J.seq<|J.seq<|J.region<|J.quiet (Y.loadB 1 rfl rfl rfl rfl rfl) rfl<|J.quiet (Y.neq rfl rfl) rfl<|J.done<|J.thenN ?_
   refine J.condD (by exact rfl) (fun hp21=> ?_) (fun hp21=> ?_)
   ·have h:=ifP hp21 h
    refine J.skip<|J.thenN<|J.seq<|J.block<|J.seq<|J.region<|J.quiet (Y.move rfl) rfl<|J.quiet (Y.loadB 1 rfl rfl rfl rfl rfl) rfl ?_
    have h:=bnd h;obtain⟨r22,hr23,h⟩:=h
    refine J.loud (Loud.callL body172 (t_bits_TrailingZeros32 fuel  r22 hr23) rfl (LentAll.cons (Lent.fact 1 rfl) .nil) (fun _ _=>rfl)) rfl fun x24=>J.yieldR (us:=[Value.int .i64 (r22)]) (i:=0) hR15 rfl rfl rfl rfl rfl rfl<|J.region<|J.quiet (Y.assign rfl) rfl<|J.done<|J.thenN<|J.begin (i:=0) rfl<|J.block<|J.seq ?_
    refine JR.start [0,0,3,7,0,31,63] 5 mixedOrders (by decide +kernel) ?_
    refine JR.open (by exact rfl) ?_
    refine JR.qt rfl (SubM.cons 4 rfl (SubM.nil)) (SubL.nil) (Y.loadB 0 rfl rfl rfl rfl rfl) HistOk.z<|JR.qt rfl (SubM.nil) (SubL.nil) (Y.move rfl) HistOk.z ?_
    have h:=ck_some h;obtain⟨hc25,h⟩:=h
    refine JR.qt rfl (SubM.nil) (SubL.cons (List.mem_of_getElem? (i:=0) rfl) (SubL.nil)) (Y.indexS rfl rfl (Lent.fact 0 rfl) rfl rfl hc25) HistOk.z<|JR.qt rfl (SubM.nil) (SubL.cons (List.mem_of_getElem? (i:=0) rfl) (SubL.nil)) (Y.loadS0 rfl (Lent.fact 0 rfl) rfl rfl rfl RU32c0 hc25) HistOk.z<|JR.qt rfl (SubM.cons 3 rfl (SubM.nil)) (SubL.nil) (Y.loadB 0 rfl rfl rfl rfl rfl) HistOk.z<|JR.tailD 5 rfl rfl<|J.quiet (Y.and rfl rfl) rfl<|J.quiet (Y.neq rfl rfl) rfl<|J.done<|J.thenN ?_
    refine J.condD (by exact rfl) (fun hp26=> ?_) (fun hp26=> ?_)
    ·have h:=ifP hp26 h
     refine J.seq<|J.region<|J.store1 2 rfl rfl rfl rfl rfl rfl<|J.done<|J.thenN<|J.ret<|J.inR<|J.roundR (i:=0) rfl<|J.quiet (Y.not rfl) rfl<|J.done<|J.thenN<|J.condT rfl<|J.ret<|J.inR<|J.thenR<|J.thenR<|J.inR<|J.retFR (i:=0) (.inl rfl) rfl (Res.r0 rfl)<|J.inR<|J.thenR<|J.unmarkAll (i:=5) (Ds:=(List.cons D13 ([]:List Nat))) (.inl rfl) rfl ?_
     obtain rfl:=Option.some.inj h
     exact J.retG1 (()) rfl rfl (RV.cell1 2 rfl rfl rfl rfl) (SubM.nil) LentAll.nil
    ·have h:=ifN hp26 h
     refine J.skip<|J.inN<|J.roundN (i:=0) rfl<|J.quiet (Y.not rfl) rfl<|J.done<|J.thenN<|J.condF rfl<|J.skip<|J.inN<|J.thenN<|J.region<|J.quiet (Y.loadB 1 rfl rfl rfl rfl rfl) rfl<|J.quiet (Y.loadB 1 rfl rfl rfl rfl rfl) rfl<|J.quiet (Y.subW rfl rfl) rfl<|J.quiet (Y.and rfl rfl) rfl<|J.store1 1 rfl rfl rfl rfl rfl rfl<|J.done<|J.thenN ?_
     exact J.againI (bAnd .u32 a18 (wI .u32 (a18 - (1:Int)))) (()) h SF (SubM.refl _) (LentAll.refl _ _)
   ·have h:=ifN hp21 h
    refine J.exit<|J.thenX<|J.thenX<|J.inX<|J.retF (i:=0) (.inr rfl) rfl (Res.r0 rfl)<|J.inN<|J.thenN ?_
    exact J.meetN (()) (List.cons D13 ([]:List Nat)) rfl h SF (SubM.cons 2 rfl (SubM.cons 4 rfl (SubM.nil))) (LentAll.refl _ _)
 ·clear h
  intro a7 b8 h
  unfold _daemon_Net__independent_k1 at h
  refine J.seq<|J.region<|J.store1 0 rfl rfl rfl rfl rfl rfl<|J.done<|J.thenN<|J.ret<|J.unmarkAll (i:=1) (Ds:=(b8)) (.inl rfl) rfl ?_
  obtain rfl:=Option.some.inj h
  exact J.retG1 (()) rfl rfl (RV.cell1 0 rfl rfl rfl rfl) (SubM.nil) LentAll.nil
end Go.Proofs.YtfbkplemadmbfaaGreatDoor
end
section
namespace Go.Proofs.YtfbkplemadmbfaaGreatDoor
open Go.Sx
def _daemon_Net__Permits_k1 (fuel:Nat) (p0:List (Int)) (p1:Int) (p2:Int) (p3:Int) (a2:Bool):Option (Bool):=
 if a2=true then(some (false))else(if p1=(1:Int)then(some (decide ((bAnd .u32 p3 (wI .u32 (p3 - (1:Int))))=(0:Int))))else(if p1=(2:Int)then(Option.bind (m__daemon_Net__independent fuel p0 p3) fun r7=>(some (r7)))else(if p1=(4:Int)then(some (decide (p3=p2)))else(some (true)))))
def m__daemon_Net__Permits (fuel:Nat) (p0:List (Int)) (p1:Int) (p2:Int) (p3:Int):Option (Bool):=
 if p3=(0:Int)then(_daemon_Net__Permits_k1 fuel p0 p1 p2 p3 (true))else(_daemon_Net__Permits_k1 fuel p0 p1 p2 p3 (decide ((bAndNot .u32 p3 p2)≠(0:Int))))
theorem body135:HasBody Tryz.prog 135:=Tryz.call135
theorem t__daemon_Net__Permits (fuel:Nat) {p0:List (Int)} {p1:Int} {p2:Int} {p3:Int} (v0:Value) (r:Bool) (h:m__daemon_Net__Permits fuel p0 p1 p2 p3=some r):
  Meets Tryz.prog 135 #[v0,Value.int .i64 (p1),Value.int .u32 (p2),Value.int .u32 (p3)] [Sl RU32 v0 p0,Gb 0 (cellsOf EU8 tab0)] (fun x:Unit=>Value.bool (r)) (fun x l=>l) (fun _ l=>l):=by
 refine Meets.of (vs:=[v0,Value.int .i64 (p1),Value.int .u32 (p2),Value.int .u32 (p3)]) Tryz.func135 rfl Tryz.ntmps135 rfl fun c=> ?_
 unfold m__daemon_Net__Permits at h
 refine J.seq<|J.region<|J.quiet (Y.assign rfl) rfl<|J.done<|J.thenN<|J.seq<|J.seq<|J.midI (A:=Bool) (B:=Unit) (fun a2=>_daemon_Net__Permits_k1 fuel p0 p1 p2 p3 a2=some r) (fun a2 b3=>[(0,v0),(1,Value.int .i64 (p1)),(2,Value.int .u32 (p2)),(3,Value.int .u32 (p3)),(16,Value.bool (a2))]) (fun a2 b3=>[]) (fun a2 b3=>[Sl RU32 v0 p0,Gb 0 (cellsOf EU8 tab0)]) ?_ ?_
 ·refine J.region<|J.quiet (Y.move rfl) rfl<|J.quiet (Y.eql rfl rfl) rfl<|J.quiet (Y.move rfl) rfl ?_
  refine J.guardD (by exact rfl) (by exact rfl) (fun hp11=> ?_) (fun hp11=> ?_)
  ·have h:=ifP hp11 h
   refine J.guardN rfl rfl rfl<|J.guardN rfl rfl rfl<|J.guardN rfl rfl rfl<|J.guardN rfl rfl rfl<|J.quiet (Y.pickT rfl rfl) rfl<|J.done<|J.thenN ?_
   exact J.meetI (true) (()) h SF (SubM.refl _) (LentAll.refl _ _)
  ·have h:=ifN hp11 h
   refine J.guardY rfl (Y.move rfl) rfl<|J.guardY rfl (Y.move rfl) rfl<|J.guardY rfl (Y.andNot rfl rfl) rfl<|J.guardY rfl (Y.neq rfl rfl) rfl<|J.quiet (Y.pickF rfl rfl) rfl<|J.done<|J.thenN ?_
   exact J.meetI (decide ((bAndNot .u32 p3 p2)≠(0:Int))) (()) h SF (SubM.refl _) (LentAll.refl _ _)
 ·clear h
  intro a2 b3 h
  unfold _daemon_Net__Permits_k1 at h
  refine J.cond (by exact rfl) (fun hp4=> ?_) (fun hp4=> ?_)
  ·have h:=ifP hp4 h
   refine J.seq<|J.region<|J.quiet (Y.assign rfl) rfl<|J.done<|J.thenN<|J.ret<|J.thenR ?_
   obtain rfl:=Option.some.inj h
   exact J.retG1 (()) rfl rfl (RV.tmp rfl) (SubM.refl _) LentAll.nil
  ·have h:=ifBN hp4 h
   refine J.skip<|J.thenN<|J.seq<|J.seq<|J.region<|J.quiet (Y.move rfl) rfl<|J.done<|J.thenN<|J.block<|J.seq<|J.region<|J.quiet (Y.eql rfl rfl) rfl<|J.quiet (Y.assign rfl) rfl<|J.done<|J.thenN ?_
   refine J.condD (by exact rfl) (fun hp5=> ?_) (fun hp5=> ?_)
   ·have h:=ifP hp5 h
    refine J.seq<|J.region<|J.quiet (Y.move rfl) rfl<|J.quiet (Y.move rfl) rfl<|J.quiet (Y.subW rfl rfl) rfl<|J.quiet (Y.and rfl rfl) rfl<|J.quiet (Y.eql rfl rfl) rfl<|J.quiet (Y.assign rfl) rfl<|J.done<|J.thenN<|J.ret<|J.inR<|J.thenR ?_
    obtain rfl:=Option.some.inj h
    exact J.retG1 (()) rfl rfl (RV.tmp rfl) (SubM.refl _) LentAll.nil
   ·have h:=ifN hp5 h
    refine J.seq<|J.region<|J.quiet (Y.eql rfl rfl) rfl<|J.quiet (Y.assign rfl) rfl<|J.done<|J.thenN ?_
    refine J.condD (by exact rfl) (fun hp6=> ?_) (fun hp6=> ?_)
    ·have h:=ifP hp6 h
     refine J.seq<|J.region<|J.quiet (Y.move rfl) rfl<|J.quiet (Y.move rfl) rfl ?_
     have h:=bnd h;obtain⟨r7,hr8,h⟩:=h
     refine J.loud (Loud.callL body166 (t__daemon_Net__independent fuel v0 r7 hr8) rfl (LentAll.cons (Lent.fact 0 rfl) (LentAll.cons (Lent.fact 1 rfl) .nil)) (fun _ _=>rfl)) rfl fun x9=>J.quiet (Y.assign rfl) rfl<|J.done<|J.thenN<|J.ret<|J.inR<|J.thenR ?_
     obtain rfl:=Option.some.inj h
     exact J.retG1 (()) rfl rfl (RV.tmp rfl) (SubM.refl _) LentAll.nil
    ·have h:=ifN hp6 h
     refine J.seq<|J.region<|J.quiet (Y.eql rfl rfl) rfl<|J.quiet (Y.assign rfl) rfl<|J.done<|J.thenN ?_
     refine J.condD (by exact rfl) (fun hp10=> ?_) (fun hp10=> ?_)
     ·have h:=ifP hp10 h
      refine J.seq<|J.region<|J.quiet (Y.move rfl) rfl<|J.quiet (Y.move rfl) rfl<|J.quiet (Y.eql rfl rfl) rfl<|J.quiet (Y.assign rfl) rfl<|J.done<|J.thenN<|J.ret<|J.inR<|J.thenR ?_
      obtain rfl:=Option.some.inj h
      exact J.retG1 (()) rfl rfl (RV.tmp rfl) (SubM.refl _) LentAll.nil
     ·have h:=ifN hp10 h
      refine J.skip<|J.inN<|J.thenN<|J.seq<|J.region<|J.quiet (Y.assign rfl) rfl<|J.done<|J.thenN<|J.ret ?_
      obtain rfl:=Option.some.inj h
      exact J.retG1 (()) rfl rfl (RV.tmp rfl) (SubM.refl _) LentAll.nil
end Go.Proofs.YtfbkplemadmbfaaGreatDoor
end
section
namespace Go.Proofs.YtfbkplemadmbfaaGreatDoor
open Go.Sx
def _daemon_Net__Resolve_k2  (a12:Int):Option (Int):=
 some (a12)
def _daemon_Net__Resolve_k4 (a24:Int×Int) (ag23:(Int×Int)->Option (Int)) (a29:Int):Option (Int):=
 ag23 ((bAnd .u32 a24.1 (wI .u32 (a24.1 - (1:Int)))),a29)
def _daemon_Net__Resolve_s1 (fuel:Nat) (p0:List (Int)) (a24:Int×Int) (ag23:(Int×Int)->Option (Int)):Option (Int):=
 if a24.1≠(0:Int)then(Option.bind (m_bits_TrailingZeros32 fuel a24.1) fun r31=>(ck (0<=r31∧r31<(List.length p0:Int)) (if(bAnd .u32 (at' p0 r31) a24.2)=(0:Int)then(ck (0<=r31) (_daemon_Net__Resolve_k4 a24 ag23 (bOr .u32 a24.2 (bShl .u32 (1:Int) r31))))else(_daemon_Net__Resolve_k4 a24 ag23 (a24.2)))))else(_daemon_Net__Resolve_k2  (a24.2))
def _daemon_Net__Resolve_k3 (fuel:Nat) (p0:List (Int)) (a5:Int) (a15:Unit):Option (Int):=
 iter (_daemon_Net__Resolve_s1 fuel p0) fuel (a5,(0:Int))
def _daemon_Net__Resolve_k1 (fuel:Nat) (p0:List (Int)) (p1:Int) (p2:Int) (a5:Int):Option (Int):=
 if p1=(1:Int)then(some (bAnd .u32 a5 (wI .u32 (0 - a5))))else(if p1=(2:Int)then(_daemon_Net__Resolve_k3 fuel p0 a5 (()))else(if p1=(4:Int)then(some (p2))else(some (a5))))
def m__daemon_Net__Resolve (fuel:Nat) (p0:List (Int)) (p1:Int) (p2:Int) (p3:Int):Option (Int):=
 if(bAnd .u32 p3 p2)=(0:Int)then(_daemon_Net__Resolve_k1 fuel p0 p1 p2 (bAnd .u32 p2 (wI .u32 (0 - p2))))else(_daemon_Net__Resolve_k1 fuel p0 p1 p2 (bAnd .u32 p3 p2))
theorem body105:HasBody Tryz.prog 105:=Tryz.call105
theorem t__daemon_Net__Resolve (fuel:Nat) {p0:List (Int)} {p1:Int} {p2:Int} {p3:Int} (v0:Value) (r:Int) (h:m__daemon_Net__Resolve fuel p0 p1 p2 p3=some r):
  Meets Tryz.prog 105 #[v0,Value.int .i64 (p1),Value.int .u32 (p2),Value.int .u32 (p3)] [Sl RU32 v0 p0,Gb 0 (cellsOf EU8 tab0)] (fun x:Unit=>Value.int .u32 (r)) (fun x l=>l) (fun _ l=>l):=by
 refine Meets.of (vs:=[v0,Value.int .i64 (p1),Value.int .u32 (p2),Value.int .u32 (p3)]) Tryz.func105 rfl Tryz.ntmps105 rfl fun c=> ?_
 unfold m__daemon_Net__Resolve at h
 refine J.stp Stp.dfs0<|J.seq<|J.region<|J.know (Know.one ((Lent.fact 0 rfl))) fun ho3=> ?_
 refine J.loud (Loud.box (cs:=[v0]) rfl (by rw[one_cells ho3])) rfl fun b2=> ?_
 refine J.quiet (Y.assign rfl) rfl<|J.done<|J.thenN<|J.seq<|J.region<|J.quiet (Y.move rfl) rfl<|J.quiet (Y.move rfl) rfl<|J.quiet (Y.and rfl rfl) rfl<|J.quiet (Y.assign rfl) rfl<|J.done<|J.thenN<|J.seq<|J.midN (A:=Int) (B:=Unit) (fun a5 b6=>⟨48,marks ([]:List Nat)⟩) (fun a5=>_daemon_Net__Resolve_k1 fuel p0 p1 p2 a5=some r) (fun a5 b6=>[(1,Value.int .i64 (p1)),(2,Value.int .u32 (p2)),(3,Value.int .u32 (a5)),(4,Value.pointer (some ⟨b2,0,none⟩)),(8,Value.int .u32 (0:Int))]) (fun a5 b6=>[Blk b2 [v0] 93,Dfs ([]:List Nat)]) (fun a5 b6=>[Sl RU32 v0 p0,Gb 0 (cellsOf EU8 tab0)]) ?_ ?_
 ·refine J.seq<|J.region<|J.quiet (Y.move rfl) rfl<|J.quiet (Y.eql rfl rfl) rfl<|J.done<|J.thenN ?_
  refine J.condD (by exact rfl) (fun hp39=> ?_) (fun hp39=> ?_)
  ·have h:=ifP hp39 h
   refine J.region<|J.quiet (Y.move rfl) rfl<|J.quiet (Y.move rfl) rfl<|J.quiet (Y.neg rfl) rfl<|J.quiet (Y.and rfl rfl) rfl<|J.quiet (Y.assign rfl) rfl<|J.done<|J.thenN ?_
   exact J.meetN (bAnd .u32 p2 (wI .u32 (0 - p2))) (()) rfl h SF (SubM.refl _) (LentAll.refl _ _)
  ·have h:=ifN hp39 h
   refine J.skip<|J.thenN ?_
   exact J.meetN (bAnd .u32 p3 p2) (()) rfl h SF (SubM.refl _) (LentAll.refl _ _)
 ·clear h
  intro a5 b6 h
  unfold _daemon_Net__Resolve_k1 at h
  refine J.seq<|J.seq<|J.region<|J.quiet (Y.move rfl) rfl<|J.done<|J.thenN<|J.block<|J.seq<|J.region<|J.quiet (Y.eql rfl rfl) rfl<|J.quiet (Y.assign rfl) rfl<|J.done<|J.thenN ?_
  refine J.condD (by exact rfl) (fun hp7=> ?_) (fun hp7=> ?_)
  ·have h:=ifP hp7 h
   refine J.seq<|J.region<|J.quiet (Y.move rfl) rfl<|J.quiet (Y.move rfl) rfl<|J.quiet (Y.neg rfl) rfl<|J.quiet (Y.and rfl rfl) rfl<|J.quiet (Y.assign rfl) rfl<|J.done<|J.thenN<|J.ret<|J.inR<|J.thenR<|J.unmarkAll (i:=1) (Ds:=([]:List Nat)) (.inl rfl) rfl ?_
   obtain rfl:=Option.some.inj h
   exact J.retG1 (()) rfl rfl (RV.tmp rfl) (SubM.nil) LentAll.nil
  ·have h:=ifN hp7 h
   refine J.seq<|J.region<|J.quiet (Y.eql rfl rfl) rfl<|J.quiet (Y.assign rfl) rfl<|J.done<|J.thenN ?_
   refine J.condD (by exact rfl) (fun hp8=> ?_) (fun hp8=> ?_)
   ·have h:=ifP hp8 h
    refine J.seq<|J.region<|J.loud (Loud.alloc (cs:=[Value.int .u32 (0:Int)]) rfl rfl) rfl fun b9=>J.store1 0 rfl rfl rfl rfl rfl rfl<|J.done<|J.thenN<|J.seq<|J.midN (A:=Int) (B:=List Nat) (fun a12 b13=>⟨48,marks b13⟩) (fun a12=>_daemon_Net__Resolve_k2  a12=some r) (fun a12 b13=>[(9,Value.pointer (some ⟨b9,0,none⟩))]) (fun a12 b13=>[Blk b9 [Value.int .u32 (a12)] 26,Dfs b13]) (fun a12 b13=>[Sl RU32 v0 p0,Gb 0 (cellsOf EU8 tab0)]) ?_ ?_
    ·refine J.seq<|J.region<|J.quiet (Y.move rfl) rfl<|J.inlC (A:=Unit) (B:=Nat) (vs:=[Value.int .u32 (a5)]) (fun a15=>_daemon_Net__Resolve_k3 fuel p0 a5 a15=some r) (fun a15 b16=>Value.func (.func 171) #[] #[Value.pointer (some ⟨b16,0,none⟩)]) (fun a15 b16=>[Blk b16 [Value.int .u32 (a5)] 26,Blk b9 [Value.int .u32 (0:Int)] 26,Blk b2 [v0] 93,Dfs ([]:List Nat)]) (fun a15 b16=>[Sl RU32 v0 p0,Gb 0 (cellsOf EU8 tab0)]) (Enter.fn (show HasBody Tryz.prog 138 from Tryz.call138) rfl) Tryz.func138 rfl Tryz.ntmps138 rfl rfl ?_ ?_
     ·refine J.seq<|J.region<|J.loud (Loud.box (cs:=[Value.int .u32 (a5)]) rfl rfl) rfl fun b37=>J.quiet (Y.assign rfl) rfl<|J.done<|J.thenN<|J.seq<|J.region<|J.quiet (Y.makeFunc (cs:=[.tmp 1]) (vs:=[Value.pointer (some ⟨b37,0,none⟩)]) rfl) rfl<|J.quiet (Y.assign rfl) rfl<|J.done<|J.thenN<|J.ret ?_
      exact J.retM (()) (b37) h (.inl rfl) (Res.r1 rfl (RV.tmp rfl)) rfl (SubM.refl _) (LentAll.refl _ _)
     ·clear h
      intro a15 b16 h
      unfold _daemon_Net__Resolve_k3 at h
      refine J.done<|J.thenN<|J.block<|J.rangeFuncD (i:=3) (cs:=[Value.pointer (some ⟨b16,0,none⟩)]) ([]:List Nat) rfl (show HasBody Tryz.prog 171 from Tryz.call171) rfl Tryz.func171 rfl Tryz.ntmps171 rfl fun l17 D18 R19 hR20=>J.block<|J.loopI (A:=Int×Int) (B:=Unit) (_daemon_Net__Resolve_s1 fuel p0) (fun a24 b25=>[(0,yieldV l17),(1,Value.pointer (some ⟨b16,0,none⟩))]) (fun a24 b25=>[Lp l17 R19 LoopState.ready none,Blk b16 [Value.int .u32 (a24.1)] 26,Blk b9 [Value.int .u32 (a24.2)] 26,Blk b2 [v0] 93,Dfs (List.cons D18 ([]:List Nat))]) (fun a24 b25=>[Sl RU32 v0 p0,Gb 0 (cellsOf EU8 tab0)]) (a5,(0:Int)) (()) h SF (SubM.refl _) (LentAll.refl _ _) ?_
      clear h
      intro k26 a24 b25 h
      unfold _daemon_Net__Resolve_s1 at h
      refine J.seq<|J.seq<|J.region<|J.quiet (Y.loadB 1 rfl rfl rfl rfl rfl) rfl<|J.quiet (Y.neq rfl rfl) rfl<|J.done<|J.thenN ?_
      refine J.condD (by exact rfl) (fun hp27=> ?_) (fun hp27=> ?_)
      ·have h:=ifP hp27 h
       refine J.skip<|J.thenN<|J.seq<|J.midI (A:=Int) (B:=Unit) (fun a29=>_daemon_Net__Resolve_k4 a24 (iter (_daemon_Net__Resolve_s1 fuel p0) k26) a29=some r) (fun a29 b30=>[(0,yieldV l17),(1,Value.pointer (some ⟨b16,0,none⟩))]) (fun a29 b30=>[Lp l17 R19 LoopState.ready none,Blk b16 [Value.int .u32 (a24.1)] 26,Blk b9 [Value.int .u32 (a29)] 26,Blk b2 [v0] 93,Dfs (List.cons D18 ([]:List Nat))]) (fun a29 b30=>[Sl RU32 v0 p0,Gb 0 (cellsOf EU8 tab0)]) ?_ ?_
       ·refine J.block<|J.seq<|J.region<|J.quiet (Y.move rfl) rfl<|J.quiet (Y.loadB 1 rfl rfl rfl rfl rfl) rfl ?_
        have h:=bnd h;obtain⟨r31,hr32,h⟩:=h
        refine J.loud (Loud.callL body172 (t_bits_TrailingZeros32 fuel  r31 hr32) rfl (LentAll.cons (Lent.fact 1 rfl) .nil) (fun _ _=>rfl)) rfl fun x33=>J.yieldR (us:=[Value.int .i64 (r31)]) (i:=0) hR20 rfl rfl rfl rfl rfl rfl<|J.region<|J.quiet (Y.assign rfl) rfl<|J.done<|J.thenN<|J.begin (i:=0) rfl<|J.block<|J.seq ?_
        refine JR.start [0,0,3,7,0,31,63] 5 mixedOrders (by decide +kernel) ?_
        refine JR.open (by exact rfl) ?_
        refine JR.qt rfl (SubM.cons 3 rfl (SubM.nil)) (SubL.nil) (Y.loadB 0 rfl rfl rfl rfl rfl) HistOk.z<|JR.qt rfl (SubM.nil) (SubL.nil) (Y.move rfl) HistOk.z ?_
        have h:=ck_some h;obtain⟨hc34,h⟩:=h
        refine JR.qt rfl (SubM.nil) (SubL.cons (List.mem_of_getElem? (i:=0) rfl) (SubL.nil)) (Y.indexS rfl rfl (Lent.fact 0 rfl) rfl rfl hc34) HistOk.z<|JR.qt rfl (SubM.nil) (SubL.cons (List.mem_of_getElem? (i:=0) rfl) (SubL.nil)) (Y.loadS0 rfl (Lent.fact 0 rfl) rfl rfl rfl RU32c0 hc34) HistOk.z<|JR.qt rfl (SubM.cons 2 rfl (SubM.nil)) (SubL.nil) (Y.loadB 0 rfl rfl rfl rfl rfl) HistOk.z<|JR.tailD 5 rfl rfl<|J.quiet (Y.and rfl rfl) rfl<|J.quiet (Y.eql rfl rfl) rfl<|J.done<|J.thenN ?_
        refine J.condD (by exact rfl) (fun hp35=> ?_) (fun hp35=> ?_)
        ·have h:=ifP hp35 h
         refine JR.start [0,0,2,7,15] 3 mixedOrders (by decide +kernel) ?_
         refine JR.open (by exact rfl) ?_
         refine JR.qt rfl (SubM.cons 2 rfl (SubM.nil)) (SubL.nil) (Y.loadB 0 rfl rfl rfl rfl rfl) HistOk.z<|JR.qt rfl (SubM.nil) (SubL.nil) (Y.move rfl) HistOk.z ?_
         have h:=ck_some h;obtain⟨hc36,h⟩:=h
         refine JR.qt rfl (SubM.nil) (SubL.nil) (Y.shl rfl rfl hc36) HistOk.z<|JR.tailD 3 rfl rfl<|J.quiet (Y.or rfl rfl) rfl<|J.store1 2 rfl rfl rfl rfl rfl rfl<|J.done<|J.inN<|J.roundN (i:=0) rfl<|J.quiet (Y.not rfl) rfl<|J.done<|J.thenN<|J.condF rfl<|J.skip<|J.inN<|J.thenN ?_
         exact J.meetI (bOr .u32 a24.2 (bShl .u32 (1:Int) r31)) (()) h SF (SubM.refl _) (LentAll.refl _ _)
        ·have h:=ifN hp35 h
         refine J.skip<|J.inN<|J.roundN (i:=0) rfl<|J.quiet (Y.not rfl) rfl<|J.done<|J.thenN<|J.condF rfl<|J.skip<|J.inN<|J.thenN ?_
         exact J.meetI (a24.2) (()) h SF (SubM.refl _) (LentAll.refl _ _)
       ·clear h
        intro a29 b30 h
        unfold _daemon_Net__Resolve_k4 at h
        refine J.region<|J.quiet (Y.loadB 1 rfl rfl rfl rfl rfl) rfl<|J.quiet (Y.loadB 1 rfl rfl rfl rfl rfl) rfl<|J.quiet (Y.subW rfl rfl) rfl<|J.quiet (Y.and rfl rfl) rfl<|J.store1 1 rfl rfl rfl rfl rfl rfl<|J.done<|J.thenN ?_
        exact J.againI ((bAnd .u32 a24.1 (wI .u32 (a24.1 - (1:Int)))),a29) (()) h SF (SubM.refl _) (LentAll.refl _ _)
      ·have h:=ifN hp27 h
       refine J.exit<|J.thenX<|J.thenX<|J.inX<|J.retF (i:=0) (.inr rfl) rfl (Res.r0 rfl)<|J.inN<|J.thenN ?_
       exact J.meetN (a24.2) (List.cons D18 ([]:List Nat)) rfl h SF (SubM.cons 2 rfl (SubM.cons 3 rfl (SubM.nil))) (LentAll.refl _ _)
    ·clear h
     intro a12 b13 h
     unfold _daemon_Net__Resolve_k2 at h
     refine J.seq<|J.region<|J.quiet (Y.loadB 0 rfl rfl rfl rfl rfl) rfl<|J.quiet (Y.assign rfl) rfl<|J.done<|J.thenN<|J.ret<|J.inR<|J.thenR<|J.unmarkAll (i:=1) (Ds:=(b13)) (.inl rfl) rfl ?_
     obtain rfl:=Option.some.inj h
     exact J.retG1 (()) rfl rfl (RV.tmp rfl) (SubM.nil) LentAll.nil
   ·have h:=ifN hp8 h
    refine J.seq<|J.region<|J.quiet (Y.eql rfl rfl) rfl<|J.quiet (Y.assign rfl) rfl<|J.done<|J.thenN ?_
    refine J.condD (by exact rfl) (fun hp38=> ?_) (fun hp38=> ?_)
    ·have h:=ifP hp38 h
     refine J.seq<|J.region<|J.quiet (Y.move rfl) rfl<|J.quiet (Y.assign rfl) rfl<|J.done<|J.thenN<|J.ret<|J.inR<|J.thenR<|J.unmarkAll (i:=1) (Ds:=([]:List Nat)) (.inl rfl) rfl ?_
     obtain rfl:=Option.some.inj h
     exact J.retG1 (()) rfl rfl (RV.tmp rfl) (SubM.nil) LentAll.nil
    ·have h:=ifN hp38 h
     refine J.skip<|J.inN<|J.thenN<|J.seq<|J.region<|J.quiet (Y.move rfl) rfl<|J.quiet (Y.assign rfl) rfl<|J.done<|J.thenN<|J.ret<|J.unmarkAll (i:=1) (Ds:=([]:List Nat)) (.inl rfl) rfl ?_
     obtain rfl:=Option.some.inj h
     exact J.retG1 (()) rfl rfl (RV.tmp rfl) (SubM.nil) LentAll.nil
end Go.Proofs.YtfbkplemadmbfaaGreatDoor
end
section
namespace Go.Proofs.YtfbkplemadmbfaaGreatDoor
open Go.Sx
def m_snapshot_Fit (fuel:Nat) (p0:List (Int)×(List (List (Int×Int)))):Option (Bool):=
 Option.bind (m_graph_Connected fuel ((p0.1,p0.2))) fun r2=>(some (r2))
theorem body21:HasBody Tryz.prog 21:=Tryz.call21
theorem t_snapshot_Fit (fuel:Nat) {p0:List (Int)×(List (List (Int×Int)))} (v0:Value)  (v1:Value)  (z2:List (Value×List (Int×Int))) (r:Bool) (h:m_snapshot_Fit fuel p0=some r):
  Meets Tryz.prog 21 #[Value.agg #[v0,v1]] [Sl RI64 v0 p0.1,S2 RI64I64p v1 z2 p0.2] (fun x:Unit=>Value.bool (r)) (fun x l=>l) (fun _ l=>l):=by
 refine Meets.of (vs:=[Value.agg #[v0,v1]]) Tryz.func21 rfl Tryz.ntmps21 rfl fun c=> ?_
 unfold m_snapshot_Fit at h
 refine J.seq<|J.region<|J.loud (Loud.box (cs:=[v0,v1]) rfl rfl) rfl fun b1=>J.quiet (Y.assign rfl) rfl<|J.done<|J.thenN<|J.seq<|J.region<|J.quiet (Y.loadBAll 0 rfl rfl rfl rfl) rfl ?_
 have h:=bnd h;obtain⟨r2,hr3,h⟩:=h
 refine J.loud (Loud.callL body40 (t_graph_Connected fuel v0 v1 z2 r2 hr3) rfl (LentAll.cons (Lent.fact 0 rfl) (LentAll.cons (Lent.fact 1 rfl) .nil)) (fun _ _=>rfl)) rfl fun x4=>J.quiet (Y.assign rfl) rfl<|J.done<|J.thenN<|J.ret ?_
 obtain rfl:=Option.some.inj h
 exact J.retG1 (()) rfl rfl (RV.tmp rfl) (SubM.nil) LentAll.nil
end Go.Proofs.YtfbkplemadmbfaaGreatDoor
end
section
namespace Go.Proofs.YtfbkplemadmbfaaGreatDoor
open Go.Sx
def snapshot_configuration_k1  (a3:Bool):Option (Bool):=
 some (a3)
def m_snapshot_configuration (fuel:Nat) (p0:List (Int)×(List (List (Int×Int)))) (p1:List (List (Int))):Option (Bool):=
 Option.bind (m_snapshot_Fit fuel ((p0.1,p0.2))) fun r5=>(if r5=true then(Option.bind (m_bfs_Configuration fuel ((p0.1,p0.2)) p1 ([(List.length p0.1:Int),(-1:Int),(1:Int),(1:Int),(15:Int),(wI .i64 ((15:Int)*(List.length p0.1:Int)))])) fun r10=>(snapshot_configuration_k1  (r10)))else(snapshot_configuration_k1  (false)))
theorem body53:HasBody Tryz.prog 53:=Tryz.call53
theorem t_snapshot_configuration (fuel:Nat) {p0:List (Int)×(List (List (Int×Int)))} {p1:List (List (Int))} (v0:Value)  (v1:Value)  (z2:List (Value×List (Int×Int)))  (v3:Value)  (z4:List (Value×List (Int))) (r:Bool) (h:m_snapshot_configuration fuel p0 p1=some r):
  Meets Tryz.prog 53 #[Value.agg #[v0,v1],v3] [Sl RI64 v0 p0.1,S2 RI64I64p v1 z2 p0.2,S2 RI64 v3 z4 p1] (fun x:Unit=>Value.bool (r)) (fun x l=>l) (fun _ l=>l):=by
 refine Meets.of (vs:=[Value.agg #[v0,v1],v3]) Tryz.func53 rfl Tryz.ntmps53 rfl fun c=> ?_
 unfold m_snapshot_configuration at h
 refine J.seq<|J.region<|J.loud (Loud.box (cs:=[v0,v1]) rfl rfl) rfl fun b1=>J.quiet (Y.assign rfl) rfl<|J.done<|J.thenN<|J.seq<|J.midI (A:=Bool) (B:=Unit) (fun a3=>snapshot_configuration_k1  a3=some r) (fun a3 b4=>[(4,Value.bool (a3))]) (fun a3 b4=>[]) (fun a3 b4=>[Sl RI64 v0 p0.1,S2 RI64I64p v1 z2 p0.2,S2 RI64 v3 z4 p1]) ?_ ?_
 ·refine J.region<|J.quiet (Y.loadBAll 0 rfl rfl rfl rfl) rfl ?_
  have h:=bnd h;obtain⟨r5,hr6,h⟩:=h
  refine J.loud (Loud.callL body21 (t_snapshot_Fit fuel v0 v1 z2 r5 hr6) rfl (LentAll.cons (Lent.fact 0 rfl) (LentAll.cons (Lent.fact 1 rfl) .nil)) (fun _ _=>rfl)) rfl fun x7=>J.quiet (Y.move rfl) rfl ?_
  refine J.guard (by exact rfl) (by exact rfl) (fun hp8=> ?_) (fun hp8=> ?_)
  ·have h:=ifP hp8 h
   refine J.guardY rfl (Y.loadBAll 0 rfl rfl rfl rfl) rfl<|J.guardY rfl (Y.move rfl) rfl<|J.guardY rfl (Y.fieldB rfl rfl rfl rfl rfl) rfl<|J.guardY rfl (Y.loadB 0 rfl rfl rfl rfl rfl) rfl<|J.guardY rfl (Y.lenS rfl (Lent.fact 0 rfl) rfl) rfl<|J.guardY rfl (Y.fieldB rfl rfl rfl rfl rfl) rfl<|J.guardY rfl (Y.loadB 0 rfl rfl rfl rfl rfl) rfl<|J.guardY rfl (Y.lenS rfl (Lent.fact 0 rfl) rfl) rfl<|J.guardY rfl (Y.mulW rfl rfl) rfl<|J.loudG rfl (Loud.buildS (e:=EI64) ([(List.length p0.1:Int),(-1:Int),(1:Int),(1:Int),(15:Int),(wI .i64 ((15:Int)*(List.length p0.1:Int)))]) [(0,Value.int .i64 (List.length p0.1:Int)),(1,Value.int .i64 (-1:Int)),(2,Value.int .i64 (1:Int)),(3,Value.int .i64 (1:Int)),(4,Value.int .i64 (15:Int)),(5,Value.int .i64 (wI .i64 ((15:Int)*(List.length p0.1:Int))))] rfl rfl rfl rfl (fill_6_1 (Value.int .i64 (List.length p0.1:Int)) (Value.int .i64 (-1:Int)) (Value.int .i64 (1:Int)) (Value.int .i64 (1:Int)) (Value.int .i64 (15:Int)) (Value.int .i64 (wI .i64 ((15:Int)*(List.length p0.1:Int)))) rfl rfl rfl rfl rfl rfl) rfl rfl rfl) rfl fun u9=> ?_
   have h:=bnd h;obtain⟨r10,hr11,h⟩:=h
   refine J.loudG rfl (Loud.callL body82 (t_bfs_Configuration fuel v0 v1 z2 v3 z4 u9 r10 hr11) rfl (LentAll.cons (Lent.fact 0 rfl) (LentAll.cons (Lent.fact 1 rfl) (LentAll.cons (Lent.fact 2 rfl) (LentAll.cons (Lent.ar (Lent.res 0 rfl) FI64) .nil)))) (fun _ _=>rfl)) rfl fun x12=>J.quiet (Y.pickT rfl rfl) rfl<|J.quiet (Y.assign rfl) rfl<|J.done<|J.thenN ?_
   exact J.meetI (r10) (()) h SF (SubM.nil) (LentAll.refl _ _)
  ·have h:=ifBN hp8 h
   refine J.guardN rfl rfl rfl<|J.guardN rfl rfl rfl<|J.guardN rfl rfl rfl<|J.guardN rfl rfl rfl<|J.guardN rfl rfl rfl<|J.guardN rfl rfl rfl<|J.guardN rfl rfl rfl<|J.guardN rfl rfl rfl<|J.guardN rfl rfl rfl<|J.guardN rfl rfl rfl<|J.guardN rfl rfl rfl<|J.quiet (Y.pickF rfl rfl) rfl<|J.quiet (Y.assign rfl) rfl<|J.done<|J.thenN ?_
   exact J.meetI (false) (()) h SF (SubM.nil) (LentAll.refl _ _)
 ·clear h
  intro a3 b4 h
  unfold snapshot_configuration_k1 at h
  refine J.ret ?_
  obtain rfl:=Option.some.inj h
  exact J.retG1 (()) rfl rfl (RV.tmp rfl) (SubM.refl _) LentAll.nil
end Go.Proofs.YtfbkplemadmbfaaGreatDoor
end
section
namespace Go.Proofs.YtfbkplemadmbfaaGreatDoor
open Go.Sx
def m_wave_Fit (fuel:Nat) (p0:List (Int)×(List (List (Int×Int)))):Option (Bool):=
 Option.bind (m_graph_Connected fuel ((p0.1,p0.2))) fun r2=>(some (r2))
theorem body111:HasBody Tryz.prog 111:=Tryz.call111
theorem t_wave_Fit (fuel:Nat) {p0:List (Int)×(List (List (Int×Int)))} (v0:Value)  (v1:Value)  (z2:List (Value×List (Int×Int))) (r:Bool) (h:m_wave_Fit fuel p0=some r):
  Meets Tryz.prog 111 #[Value.agg #[v0,v1]] [Sl RI64 v0 p0.1,S2 RI64I64p v1 z2 p0.2] (fun x:Unit=>Value.bool (r)) (fun x l=>l) (fun _ l=>l):=by
 refine Meets.of (vs:=[Value.agg #[v0,v1]]) Tryz.func111 rfl Tryz.ntmps111 rfl fun c=> ?_
 unfold m_wave_Fit at h
 refine J.seq<|J.region<|J.loud (Loud.box (cs:=[v0,v1]) rfl rfl) rfl fun b1=>J.quiet (Y.assign rfl) rfl<|J.done<|J.thenN<|J.seq<|J.region<|J.quiet (Y.loadBAll 0 rfl rfl rfl rfl) rfl ?_
 have h:=bnd h;obtain⟨r2,hr3,h⟩:=h
 refine J.loud (Loud.callL body40 (t_graph_Connected fuel v0 v1 z2 r2 hr3) rfl (LentAll.cons (Lent.fact 0 rfl) (LentAll.cons (Lent.fact 1 rfl) .nil)) (fun _ _=>rfl)) rfl fun x4=>J.quiet (Y.assign rfl) rfl<|J.done<|J.thenN<|J.ret ?_
 obtain rfl:=Option.some.inj h
 exact J.retG1 (()) rfl rfl (RV.tmp rfl) (SubM.nil) LentAll.nil
end Go.Proofs.YtfbkplemadmbfaaGreatDoor
end
section
namespace Go.Proofs.YtfbkplemadmbfaaGreatDoor
open Go.Sx
def wave_configuration_k1  (a3:Bool):Option (Bool):=
 some (a3)
def m_wave_configuration (fuel:Nat) (p0:List (Int)×(List (List (Int×Int)))) (p1:List (List (Int))):Option (Bool):=
 Option.bind (m_wave_Fit fuel ((p0.1,p0.2))) fun r5=>(if r5=true then(Option.bind (m_bfs_Configuration fuel ((p0.1,p0.2)) p1 ([(List.length p0.1:Int),(-1:Int),(1:Int),(1:Int)])) fun r10=>(wave_configuration_k1  (r10)))else(wave_configuration_k1  (false)))
theorem body90:HasBody Tryz.prog 90:=Tryz.call90
theorem t_wave_configuration (fuel:Nat) {p0:List (Int)×(List (List (Int×Int)))} {p1:List (List (Int))} (v0:Value)  (v1:Value)  (z2:List (Value×List (Int×Int)))  (v3:Value)  (z4:List (Value×List (Int))) (r:Bool) (h:m_wave_configuration fuel p0 p1=some r):
  Meets Tryz.prog 90 #[Value.agg #[v0,v1],v3] [Sl RI64 v0 p0.1,S2 RI64I64p v1 z2 p0.2,S2 RI64 v3 z4 p1] (fun x:Unit=>Value.bool (r)) (fun x l=>l) (fun _ l=>l):=by
 refine Meets.of (vs:=[Value.agg #[v0,v1],v3]) Tryz.func90 rfl Tryz.ntmps90 rfl fun c=> ?_
 unfold m_wave_configuration at h
 refine J.seq<|J.region<|J.loud (Loud.box (cs:=[v0,v1]) rfl rfl) rfl fun b1=>J.quiet (Y.assign rfl) rfl<|J.done<|J.thenN<|J.seq<|J.midI (A:=Bool) (B:=Unit) (fun a3=>wave_configuration_k1  a3=some r) (fun a3 b4=>[(4,Value.bool (a3))]) (fun a3 b4=>[]) (fun a3 b4=>[Sl RI64 v0 p0.1,S2 RI64I64p v1 z2 p0.2,S2 RI64 v3 z4 p1]) ?_ ?_
 ·refine J.region<|J.quiet (Y.loadBAll 0 rfl rfl rfl rfl) rfl ?_
  have h:=bnd h;obtain⟨r5,hr6,h⟩:=h
  refine J.loud (Loud.callL body111 (t_wave_Fit fuel v0 v1 z2 r5 hr6) rfl (LentAll.cons (Lent.fact 0 rfl) (LentAll.cons (Lent.fact 1 rfl) .nil)) (fun _ _=>rfl)) rfl fun x7=>J.quiet (Y.move rfl) rfl ?_
  refine J.guard (by exact rfl) (by exact rfl) (fun hp8=> ?_) (fun hp8=> ?_)
  ·have h:=ifP hp8 h
   refine J.guardY rfl (Y.loadBAll 0 rfl rfl rfl rfl) rfl<|J.guardY rfl (Y.move rfl) rfl<|J.guardY rfl (Y.fieldB rfl rfl rfl rfl rfl) rfl<|J.guardY rfl (Y.loadB 0 rfl rfl rfl rfl rfl) rfl<|J.guardY rfl (Y.lenS rfl (Lent.fact 0 rfl) rfl) rfl<|J.loudG rfl (Loud.buildS (e:=EI64) ([(List.length p0.1:Int),(-1:Int),(1:Int),(1:Int)]) [(0,Value.int .i64 (List.length p0.1:Int)),(1,Value.int .i64 (-1:Int)),(2,Value.int .i64 (1:Int)),(3,Value.int .i64 (1:Int))] rfl rfl rfl rfl (fill_4_1 (Value.int .i64 (List.length p0.1:Int)) (Value.int .i64 (-1:Int)) (Value.int .i64 (1:Int)) (Value.int .i64 (1:Int)) rfl rfl rfl rfl) rfl rfl rfl) rfl fun u9=> ?_
   have h:=bnd h;obtain⟨r10,hr11,h⟩:=h
   refine J.loudG rfl (Loud.callL body82 (t_bfs_Configuration fuel v0 v1 z2 v3 z4 u9 r10 hr11) rfl (LentAll.cons (Lent.fact 0 rfl) (LentAll.cons (Lent.fact 1 rfl) (LentAll.cons (Lent.fact 2 rfl) (LentAll.cons (Lent.ar (Lent.res 0 rfl) FI64) .nil)))) (fun _ _=>rfl)) rfl fun x12=>J.quiet (Y.pickT rfl rfl) rfl<|J.quiet (Y.assign rfl) rfl<|J.done<|J.thenN ?_
   exact J.meetI (r10) (()) h SF (SubM.nil) (LentAll.refl _ _)
  ·have h:=ifBN hp8 h
   refine J.guardN rfl rfl rfl<|J.guardN rfl rfl rfl<|J.guardN rfl rfl rfl<|J.guardN rfl rfl rfl<|J.guardN rfl rfl rfl<|J.guardN rfl rfl rfl<|J.guardN rfl rfl rfl<|J.quiet (Y.pickF rfl rfl) rfl<|J.quiet (Y.assign rfl) rfl<|J.done<|J.thenN ?_
   exact J.meetI (false) (()) h SF (SubM.nil) (LentAll.refl _ _)
 ·clear h
  intro a3 b4 h
  unfold wave_configuration_k1 at h
  refine J.ret ?_
  obtain rfl:=Option.some.inj h
  exact J.retG1 (()) rfl rfl (RV.tmp rfl) (SubM.refl _) LentAll.nil
end Go.Proofs.YtfbkplemadmbfaaGreatDoor
end
section
namespace Go.Proofs.YtfbkplemadmbfaaGreatDoor
open Go.Sx
def bfs_Towards_k1  (a5:List (Int)):Option (List (Int)):=
 some (a5)
def bfs_Towards_k2 (a10:Int×List (Int)) (ag9:(Int×List (Int))->Option (List (Int))) (a15:List (Int)):Option (List (Int)):=
 ag9 ((wI .i64 (a10.1+(1:Int))),a15)
def bfs_Towards_s1 (p0:List (Int)×(List (List (Int×Int)))) (p1:List (List (Int))) (p2:Int) (a10:Int×List (Int)) (ag9:(Int×List (Int))->Option (List (Int))):Option (List (Int)):=
 if a10.1<(List.length p1:Int)then(ck (0<=a10.1∧a10.1<(List.length p1:Int)) (ck (0<=a10.1∧a10.1<(List.length a10.2:Int)) (ck (0<=p2∧p2<(List.length (at' p1 a10.1):Int)) (if(0:Int)<=(at' (at' p1 a10.1) p2)then(ck (0<=a10.1∧a10.1<(List.length p0.2:Int)) (ck (0<=p2∧p2<(List.length (at' p1 a10.1):Int)) (ck (0<=(at' (at' p1 a10.1) p2)∧(at' (at' p1 a10.1) p2)<(List.length (at' p0.2 a10.1):Int)) (ck (0<=a10.1∧a10.1<(List.length (List.set a10.2 (Int.toNat a10.1) (-1:Int)):Int)) (bfs_Towards_k2 a10 ag9 (List.set (List.set a10.2 (Int.toNat a10.1) (-1:Int)) (Int.toNat a10.1) ((at' (at' p0.2 a10.1) (at' (at' p1 a10.1) p2)).1)))))))else(bfs_Towards_k2 a10 ag9 (List.set a10.2 (Int.toNat a10.1) (-1:Int)))))))else(bfs_Towards_k1  (a10.2))
def m_bfs_Towards (fuel:Nat) (p0:List (Int)×(List (List (Int×Int)))) (p1:List (List (Int))) (p2:Int):Option (List (Int)):=
 ck (0<=(List.length p1:Int)∧(List.length p1:Int)<=1099511627) (iter (bfs_Towards_s1 p0 p1 p2) fuel ((0:Int),(List.replicate (Int.toNat (List.length p1:Int)) (0:Int))))
theorem body92:HasBody Tryz.prog 92:=Tryz.call92
theorem t_bfs_Towards (fuel:Nat) {p0:List (Int)×(List (List (Int×Int)))} {p1:List (List (Int))} {p2:Int} (v0:Value)  (v1:Value)  (z2:List (Value×List (Int×Int)))  (v3:Value)  (z4:List (Value×List (Int))) (r:List (Int)) (h:m_bfs_Towards fuel p0 p1 p2=some r):
  Meets Tryz.prog 92 #[Value.agg #[v0,v1],v3,Value.int .i64 (p2)] [Sl RI64 v0 p0.1,S2 RI64I64p v1 z2 p0.2,S2 RI64 v3 z4 p1] (fun x:Value=>x) (fun x l=>Ar EI64 x r::l) (fun _ l=>l):=by
 refine Meets.of (vs:=[Value.agg #[v0,v1],v3,Value.int .i64 (p2)]) Tryz.func92 rfl Tryz.ntmps92 rfl fun c=> ?_
 unfold m_bfs_Towards at h
 refine J.seq<|J.region<|J.loud (Loud.box (cs:=[v0,v1]) rfl rfl) rfl fun b1=>J.quiet (Y.assign rfl) rfl<|J.done<|J.thenN<|J.seq<|J.region<|J.quiet (Y.move rfl) rfl<|J.quiet (Y.lenN rfl (Lent.fact 2 rfl) rfl) rfl ?_
 have h:=ck_some h;obtain⟨hc2,h⟩:=h
 refine J.loud (Loud.makeS (e:=EI64) (0:Int) rfl rfl rfl rfl hc2 rfl rfl rfl) rfl fun u3=>J.quiet (Y.assign rfl) rfl<|J.done<|J.thenN<|J.seq<|J.midI (A:=List (Int)) (B:=Unit) (fun a5=>bfs_Towards_k1  a5=some r) (fun a5 b6=>[(7,u3)]) (fun a5 b6=>[Ar EI64 u3 a5]) (fun a5 b6=>[Sl RI64 v0 p0.1,S2 RI64I64p v1 z2 p0.2,S2 RI64 v3 z4 p1]) ?_ ?_
 ·refine J.seq<|J.region<|J.quiet (Y.move rfl) rfl<|J.quiet (Y.lenN rfl (Lent.fact 2 rfl) rfl) rfl<|J.quiet (Y.move rfl) rfl<|J.done<|J.thenN<|J.block<|J.loopI (A:=Int×List (Int)) (B:=Unit) (bfs_Towards_s1 p0 p1 p2) (fun a10 b11=>[(2,Value.int .i64 (p2)),(3,Value.pointer (some ⟨b1,0,none⟩)),(7,u3),(13,v3),(14,Value.int .i64 (List.length p1:Int)),(15,Value.int .i64 (a10.1))]) (fun a10 b11=>[Ar EI64 u3 a10.2,Blk b1 [v0,v1] 25]) (fun a10 b11=>[Sl RI64 v0 p0.1,S2 RI64I64p v1 z2 p0.2,S2 RI64 v3 z4 p1]) ((0:Int),(List.replicate (Int.toNat (List.length p1:Int)) (0:Int))) (()) h SF (SubM.refl _) (LentAll.refl _ _) ?_
  clear h
  intro k12 a10 b11 h
  unfold bfs_Towards_s1 at h
  refine J.seq<|J.region<|J.quiet (Y.lss rfl rfl) rfl<|J.done<|J.thenN<|J.seq ?_
  refine J.condD (by exact rfl) (fun hp13=> ?_) (fun hp13=> ?_)
  ·have h:=ifP hp13 h
   refine J.skip<|J.thenN<|J.seq<|J.midI (A:=List (Int)) (B:=Unit) (fun a15=>bfs_Towards_k2 a10 (iter (bfs_Towards_s1 p0 p1 p2) k12) a15=some r) (fun a15 b16=>[(2,Value.int .i64 (p2)),(3,Value.pointer (some ⟨b1,0,none⟩)),(7,u3),(13,v3),(14,Value.int .i64 (List.length p1:Int)),(15,Value.int .i64 (a10.1))]) (fun a15 b16=>[Ar EI64 u3 a15,Blk b1 [v0,v1] 25]) (fun a15 b16=>[Sl RI64 v0 p0.1,S2 RI64I64p v1 z2 p0.2,S2 RI64 v3 z4 p1]) ?_ ?_
   ·refine J.block<|J.seq<|J.region<|J.quiet (Y.move rfl) rfl ?_
    have h:=ck_some h;obtain⟨hc17,h⟩:=h
    refine J.quiet (Y.indexN rfl rfl (Lent.fact 2 rfl) rfl rfl hc17) rfl<|J.quiet (Y.loadRow rfl (Lent.fact 2 rfl) rfl rfl hc17) rfl<|J.quiet (Y.assign rfl) rfl<|J.quiet (Y.assign rfl) rfl<|J.done<|J.thenN<|J.seq<|J.region<|J.quiet (Y.move rfl) rfl<|J.quiet (Y.move rfl) rfl ?_
    have h:=ck_some h;obtain⟨hc18,h⟩:=h
    refine J.quiet (Y.indexS rfl rfl (Lent.ar (Lent.res 0 rfl) FI64) rfl rfl hc18) rfl<|J.storeS 0 (-1:Int) hc18 rfl rfl rfl rfl rfl rfl rfl<|J.done<|J.thenN<|J.seq<|J.region<|J.quiet (Y.move rfl) rfl<|J.quiet (Y.move rfl) rfl ?_
    have h:=ck_some h;obtain⟨hc19,h⟩:=h
    refine J.quiet (Y.indexS rfl rfl (Lent.el (Lent.fact 2 rfl) hc17.1 hc17.2) rfl rfl hc19) rfl<|J.quiet (Y.loadS0 rfl (Lent.el (Lent.fact 2 rfl) hc17.1 hc17.2) rfl rfl rfl RI64c0 hc19) rfl<|J.quiet (Y.geq rfl rfl) rfl<|J.done<|J.thenN ?_
    refine J.condD (by exact rfl) (fun hp20=> ?_) (fun hp20=> ?_)
    ·have h:=ifP hp20 h
     refine JR.start [0,0,0,4,0,28,60,0,0,384,896,2044,4092,8188,16383,32767] 14 mixedOrders (by decide +kernel) ?_
     refine JR.open (by exact rfl) ?_
     refine JR.qt rfl (SubM.nil) (SubL.nil) (Y.move rfl) HistOk.z<|JR.qt rfl (SubM.nil) (SubL.nil) (Y.move rfl) HistOk.z<|JR.qt rfl (SubM.nil) (SubL.nil) (Y.fieldB rfl rfl rfl rfl rfl) HistOk.z<|JR.qt rfl (SubM.cons 1 rfl (SubM.nil)) (SubL.nil) (Y.loadB 0 rfl rfl rfl rfl rfl) HistOk.z<|JR.qt rfl (SubM.nil) (SubL.nil) (Y.move rfl) HistOk.z ?_
     have h:=ck_some h;obtain⟨hc21,h⟩:=h
     refine JR.qt rfl (SubM.nil) (SubL.cons (List.mem_of_getElem? (i:=1) rfl) (SubL.nil)) (Y.indexN rfl rfl (Lent.fact 0 rfl) rfl rfl hc21) HistOk.z<|JR.qt rfl (SubM.nil) (SubL.cons (List.mem_of_getElem? (i:=1) rfl) (SubL.nil)) (Y.loadRow rfl (Lent.fact 0 rfl) rfl rfl hc21) HistOk.z<|JR.qt rfl (SubM.nil) (SubL.nil) (Y.move rfl) HistOk.z<|JR.qt rfl (SubM.nil) (SubL.nil) (Y.move rfl) HistOk.z ?_
     have h:=ck_some h;obtain⟨hc22,h⟩:=h
     refine JR.qt rfl (SubM.nil) (SubL.cons (List.mem_of_getElem? (i:=2) rfl) (SubL.nil)) (Y.indexS rfl rfl (Lent.el (Lent.fact 0 rfl) hc17.1 hc17.2) rfl rfl hc22) HistOk.z<|JR.qt rfl (SubM.nil) (SubL.cons (List.mem_of_getElem? (i:=2) rfl) (SubL.nil)) (Y.loadS0 rfl (Lent.el (Lent.fact 0 rfl) hc17.1 hc17.2) rfl rfl rfl RI64c0 hc22) HistOk.z ?_
     have h:=ck_some h;obtain⟨hc23,h⟩:=h
     refine JR.qt rfl (SubM.nil) (SubL.cons (List.mem_of_getElem? (i:=1) rfl) (SubL.nil)) (Y.indexS rfl rfl (Lent.el (Lent.fact 0 rfl) hc21.1 hc21.2) rfl rfl hc23) HistOk.z<|JR.qt rfl (SubM.nil) (SubL.nil) (Y.fieldEl rfl rfl rfl rfl rfl) HistOk.z<|JR.qt rfl (SubM.nil) (SubL.cons (List.mem_of_getElem? (i:=1) rfl) (SubL.nil)) (Y.loadS rfl (Lent.el (Lent.fact 0 rfl) hc21.1 hc21.2) rfl rfl rfl RI64I64pc0 hc23) HistOk.z<|JR.tailD 14 rfl rfl ?_
     have h:=ck_some h;obtain⟨hc24,h⟩:=h
     refine J.quiet (Y.indexS rfl rfl (Lent.ar (Lent.res 0 rfl) FI64) rfl rfl hc24) rfl<|J.storeS 0 ((at' (at' p0.2 a10.1) (at' (at' p1 a10.1) p2)).1) hc24 rfl rfl rfl rfl rfl rfl rfl<|J.done<|J.inN<|J.thenN ?_
     exact J.meetI (List.set (List.set a10.2 (Int.toNat a10.1) (-1:Int)) (Int.toNat a10.1) ((at' (at' p0.2 a10.1) (at' (at' p1 a10.1) p2)).1)) (()) h SF (SubM.refl _) (LentAll.refl _ _)
    ·have h:=ifN hp20 h
     refine J.skip<|J.inN<|J.thenN ?_
     exact J.meetI (List.set a10.2 (Int.toNat a10.1) (-1:Int)) (()) h SF (SubM.refl _) (LentAll.refl _ _)
   ·clear h
    intro a15 b16 h
    unfold bfs_Towards_k2 at h
    refine J.region<|J.quiet (Y.addW rfl rfl) rfl<|J.quiet (Y.move rfl) rfl<|J.done<|J.thenN ?_
    exact J.againI ((wI .i64 (a10.1+(1:Int))),a15) (()) h SF (SubM.refl _) (LentAll.refl _ _)
  ·have h:=ifN hp13 h
   refine J.exit<|J.thenX<|J.thenX<|J.inX<|J.thenN ?_
   exact J.meetI (a10.2) (()) h SF (SubM.cons 0 rfl (SubM.nil)) (LentAll.refl _ _)
 ·clear h
  intro a5 b6 h
  unfold bfs_Towards_k1 at h
  refine J.seq<|J.region<|J.quiet (Y.move rfl) rfl<|J.quiet (Y.assign rfl) rfl<|J.done<|J.thenN<|J.ret ?_
  obtain rfl:=Option.some.inj h
  exact J.retG1 (u3) rfl rfl (RV.tmp rfl) (SubM.refl _) LentAll.nil
end Go.Proofs.YtfbkplemadmbfaaGreatDoor
end
section
namespace Go.Proofs.YtfbkplemadmbfaaGreatDoor
open Go.Sx
def wave_Legit_k2  (a6:Unit):Option (Bool):=
 some (true)
def wave_Legit_k3 (a13:Int) (ag12:(Int)->Option (Bool)) (a17:Unit):Option (Bool):=
 ag12 (wI .i64 (a13+(1:Int)))
def wave_Legit_k5 (a13:Int) (ag12:(Int)->Option (Bool)) (a25:Bool):Option (Bool):=
 if a25=true then(some (false))else(wave_Legit_k3 a13 ag12 (()))
def wave_Legit_k4 (p1:List (List (Int))) (r8:List (Int)) (a13:Int) (ag12:(Int)->Option (Bool)) (a21:Bool):Option (Bool):=
 if a21=true then(wave_Legit_k3 a13 ag12 (()))else(ck (0<=a13∧a13<(List.length p1:Int)) (ck (0<=(2:Int)∧(2:Int)<(List.length (at' p1 a13):Int)) (ck (0<=(at' r8 a13)∧(at' r8 a13)<(List.length p1:Int)) (ck (0<=(2:Int)∧(2:Int)<(List.length (at' p1 (at' r8 a13)):Int)) (if(at' (at' p1 a13) (2:Int))≠(at' (at' p1 (at' r8 a13)) (2:Int))then(wave_Legit_k5 a13 ag12 (true))else(ck (0<=a13∧a13<(List.length p1:Int)) (ck (0<=(3:Int)∧(3:Int)<(List.length (at' p1 a13):Int)) (ck (0<=(at' r8 a13)∧(at' r8 a13)<(List.length p1:Int)) (ck (0<=(3:Int)∧(3:Int)<(List.length (at' p1 (at' r8 a13)):Int)) (wave_Legit_k5 a13 ag12 (decide ((at' (at' p1 a13) (3:Int))≠(at' (at' p1 (at' r8 a13)) (3:Int))))))))))))))
def wave_Legit_s1 (p1:List (List (Int))) (r8:List (Int)) (a13:Int) (ag12:(Int)->Option (Bool)):Option (Bool):=
 if a13<(List.length r8:Int)then(ck (0<=a13∧a13<(List.length r8:Int)) (if(at' r8 a13)<(0:Int)then(wave_Legit_k4 p1 r8 a13 ag12 (true))else(ck (0<=(at' r8 a13)∧(at' r8 a13)<(List.length p1:Int)) (ck (0<=(2:Int)∧(2:Int)<(List.length (at' p1 (at' r8 a13)):Int)) (wave_Legit_k4 p1 r8 a13 ag12 (decide ((at' (at' p1 (at' r8 a13)) (2:Int))=(1:Int))))))))else(wave_Legit_k2  (()))
def wave_Legit_k1 (fuel:Nat) (p0:List (Int)×(List (List (Int×Int)))) (p1:List (List (Int))) (a3:Bool):Option (Bool):=
 if a3=true then(some (false))else(Option.bind (m_bfs_Towards fuel ((p0.1,p0.2)) p1 (1:Int)) fun r8=>(iter (wave_Legit_s1 p1 r8) fuel (0:Int)))
def wave_Legit_k6 (fuel:Nat) (p0:List (Int)×(List (List (Int×Int)))) (p1:List (List (Int))) (a47:List (List (Int))):Option (Bool):=
 Option.bind (m_bfs_Legit fuel ((p0.1,p0.2)) a47) fun r49=>(wave_Legit_k1 fuel p0 p1 ((!r49)))
def wave_Legit_k7 (fuel:Nat) (p0:List (Int)×(List (List (Int×Int)))) (p1:List (List (Int))) (a56:List (List (Int))):Option (Bool):=
 wave_Legit_k6 fuel p0 p1 (a56)
def wave_Legit_s2 (fuel:Nat) (p0:List (Int)×(List (List (Int×Int)))) (p1:List (List (Int))) (a62:Int×List (List (Int))) (ag61:(Int×List (List (Int)))->Option (Bool)):Option (Bool):=
 if a62.1<(List.length p1:Int)then(ck (0<=a62.1∧a62.1<(List.length p1:Int)) (ck (0<=(0:Int)∧(0:Int)<=(2:Int)∧(2:Int)<=(2:Int)∧(2:Int)<=(List.length (at' p1 a62.1):Int)) (ck (0<=a62.1∧a62.1<(List.length a62.2:Int)) (ag61 ((wI .i64 (a62.1+(1:Int))),(List.set a62.2 (Int.toNat a62.1) (List.drop (Int.toNat (0:Int)) (List.take (Int.toNat (2:Int)) (at' p1 a62.1)))))))))else(wave_Legit_k7 fuel p0 p1 (a62.2))
def m_wave_Legit (fuel:Nat) (p0:List (Int)×(List (List (Int×Int)))) (p1:List (List (Int))):Option (Bool):=
 Option.bind (m_wave_configuration fuel ((p0.1,p0.2)) p1) fun r40=>(if(!r40)=true then(wave_Legit_k1 fuel p0 p1 (true))else(ck (0<=(List.length p1:Int)∧(List.length p1:Int)<=1099511627) (iter (wave_Legit_s2 fuel p0 p1) fuel ((0:Int),(List.replicate (Int.toNat (List.length p1:Int)) ([]:List Int))))))
theorem body54:HasBody Tryz.prog 54:=Tryz.call54
theorem t_wave_Legit (fuel:Nat) {p0:List (Int)×(List (List (Int×Int)))} {p1:List (List (Int))} (v0:Value)  (v1:Value)  (z2:List (Value×List (Int×Int)))  (v3:Value)  (z4:List (Value×List (Int))) (r:Bool) (h:m_wave_Legit fuel p0 p1=some r):
  Meets Tryz.prog 54 #[Value.agg #[v0,v1],v3] [Sl RI64 v0 p0.1,S2 RI64I64p v1 z2 p0.2,S2 RI64 v3 z4 p1] (fun x:Unit=>Value.bool (r)) (fun x l=>l) (fun _ l=>l):=by
 refine Meets.of (vs:=[Value.agg #[v0,v1],v3]) Tryz.func54 rfl Tryz.ntmps54 rfl fun c=> ?_
 unfold m_wave_Legit at h
 refine J.seq<|J.region<|J.loud (Loud.box (cs:=[v0,v1]) rfl rfl) rfl fun b1=>J.quiet (Y.assign rfl) rfl<|J.done<|J.thenN<|J.seq<|J.seq<|J.midI (A:=Bool) (B:=Unit) (fun a3=>wave_Legit_k1 fuel p0 p1 a3=some r) (fun a3 b4=>[(1,v3),(2,Value.pointer (some ⟨b1,0,none⟩)),(17,Value.bool (a3))]) (fun a3 b4=>[Blk b1 [v0,v1] 25]) (fun a3 b4=>[Sl RI64 v0 p0.1,S2 RI64I64p v1 z2 p0.2,S2 RI64 v3 z4 p1]) ?_ ?_
 ·refine JR.start [0,0,3,7,15,31,31,95,255,511,1023] 8 mixedOrders (by decide +kernel) ?_
  refine JR.open (by exact rfl) ?_
  refine JR.qt rfl (SubM.refl _) (SubL.nil) (Y.loadBAll 0 rfl rfl rfl rfl) HistOk.z<|JR.qt rfl (SubM.nil) (SubL.nil) (Y.move rfl) HistOk.z ?_
  have h:=bnd h;obtain⟨r40,hr41,h⟩:=h
  refine JR.loud rfl rfl rfl (Loud.callL body90 (t_wave_configuration fuel v0 v1 z2 v3 z4 r40 hr41) rfl (LentAll.cons (Lent.fact 0 rfl) (LentAll.cons (Lent.fact 1 rfl) (LentAll.cons (Lent.fact 2 rfl) .nil))) (fun _ _=>rfl)) rfl (fun x42=>(BsOk.b rfl (BsOk.b rfl BsOk.z))) fun x42=>JR.qt rfl (SubM.nil) (SubL.nil) (Y.not rfl) (HistOk.b rfl HistOk.z)<|JR.qt rfl (SubM.nil) (SubL.nil) (Y.move rfl) (HistOk.b rfl HistOk.z) ?_
  refine JR.guard (by exact rfl) (by exact rfl) (by exact rfl) (fun hp43=> ?_) (fun hp43=> ?_)
  ·have h:=ifP hp43 h
   refine JR.guardN rfl rfl rfl rfl<|JR.guardN rfl rfl rfl rfl<|JR.guardN rfl rfl rfl rfl<|JR.tailD 8 rfl rfl<|J.guardN rfl rfl rfl<|J.guardN rfl rfl rfl<|J.quiet (Y.pickT rfl rfl) rfl<|J.done<|J.thenN ?_
   exact J.meetI (true) (()) h SF (SubM.refl _) (LentAll.refl _ _)
  ·have h:=ifBN hp43 h
   refine JR.qtG rfl (SubM.refl _) (SubL.nil) (Y.loadBAll 0 rfl rfl rfl rfl) (HistOk.b rfl HistOk.z)<|JR.qtG rfl (SubM.nil) (SubL.nil) (Y.move rfl) (HistOk.b rfl HistOk.z)<|JR.inlCG (A:=List (List (Int))) (B:=Value×List Value) (vs:=[v3]) (fun a47=>wave_Legit_k6 fuel p0 p1 a47=some r) (fun a47 b48=>b48.1) (fun a47 b48=>[Ar Enc.raw b48.1 b48.2,Blk b1 [v0,v1] 25]) (fun a47 b48=>[Rlf RI64 b48.2 a47,Sl RI64 v0 p0.1,S2 RI64I64p v1 z2 p0.2,S2 RI64 v3 z4 p1]) rfl rfl rfl rfl (Enter.fn (show HasBody Tryz.prog 91 from Tryz.call91) rfl) Tryz.func91 rfl Tryz.ntmps91 rfl rfl (fun _ _=>(BsOk.b rfl (BsOk.h (SubM.cons 1 rfl (SubM.nil)) (SubL.nil) (BsOk.b rfl (BsOk.b rfl (BsOk.b rfl (BsOk.b rfl BsOk.z))))))) ?_ ?_
   ·refine J.seq<|J.region<|J.quiet (Y.assign rfl) rfl<|J.done<|J.thenN<|J.seq<|J.region<|J.quiet (Y.move rfl) rfl<|J.quiet (Y.lenN rfl (Lent.fact 2 rfl) rfl) rfl ?_
    have h:=ck_some h;obtain⟨hc52,h⟩:=h
    refine J.addRl RI64 (Int.toNat (List.length p1:Int))<|J.loud (Loud.makeS (e:=Enc.raw) (Value.slice none 0 0) rfl rfl rfl rfl hc52 rfl rfl rfl) rfl fun u53=>J.quiet (Y.assign rfl) rfl<|J.done<|J.thenN<|J.seq<|J.midI (A:=List (List (Int))) (B:=List Value) (fun a56=>wave_Legit_k7 fuel p0 p1 a56=some r) (fun a56 b57=>[(3,u53)]) (fun a56 b57=>[Ar Enc.raw u53 b57,Blk b1 [v0,v1] 25]) (fun a56 b57=>[Rlf RI64 b57 a56,Sl RI64 v0 p0.1,S2 RI64I64p v1 z2 p0.2,S2 RI64 v3 z4 p1]) ?_ ?_
    ·refine J.seq<|J.region<|J.quiet (Y.move rfl) rfl<|J.quiet (Y.lenN rfl (Lent.fact 3 rfl) rfl) rfl<|J.quiet (Y.move rfl) rfl<|J.done<|J.thenN<|J.block<|J.loopI (A:=Int×List (List (Int))) (B:=List Value) (wave_Legit_s2 fuel p0 p1) (fun a62 b63=>[(3,u53),(9,v3),(10,Value.int .i64 (List.length p1:Int)),(11,Value.int .i64 (a62.1))]) (fun a62 b63=>[Ar Enc.raw u53 b63,Blk b1 [v0,v1] 25]) (fun a62 b63=>[Rlf RI64 b63 a62.2,Sl RI64 v0 p0.1,S2 RI64I64p v1 z2 p0.2,S2 RI64 v3 z4 p1]) ((0:Int),(List.replicate (Int.toNat (List.length p1:Int)) ([]:List Int))) (List.replicate (Int.toNat (List.length p1:Int)) (Value.slice none 0 0)) h SF (SubM.refl _) (LentAll.refl _ _) ?_
     clear h
     intro k64 a62 b63 h
     unfold wave_Legit_s2 at h
     refine J.seq<|J.region<|J.quiet (Y.lss rfl rfl) rfl<|J.done<|J.thenN<|J.seq ?_
     refine J.condD (by exact rfl) (fun hp65=> ?_) (fun hp65=> ?_)
     ·have h:=ifP hp65 h
      refine J.skip<|J.thenN<|J.seq<|J.block<|J.seq<|J.region<|J.quiet (Y.move rfl) rfl ?_
      have h:=ck_some h;obtain⟨hc66,h⟩:=h
      refine J.quiet (Y.indexN rfl rfl (Lent.fact 3 rfl) rfl rfl hc66) rfl<|J.quiet (Y.loadRow rfl (Lent.fact 3 rfl) rfl rfl hc66) rfl<|J.quiet (Y.assign rfl) rfl<|J.quiet (Y.assign rfl) rfl<|J.done<|J.thenN<|J.region<|J.quiet (Y.move rfl) rfl<|J.quiet (Y.move rfl) rfl<|J.quiet (Y.move rfl) rfl ?_
      have h:=ck_some h;obtain⟨hc67,h⟩:=h
      refine J.quiet (Y.slice3R rfl rfl rfl rfl (Lent.el (Lent.fact 3 rfl) hc66.1 hc66.2) rfl rfl hc67) rfl ?_
      have h:=ck_some h;obtain⟨hc68,h⟩:=h
      refine J.quiet (Y.indexN rfl rfl (Lent.rowsL (i:=0) (j:=0) rfl rfl) rfl rfl hc68) rfl<|J.know (Know.one ((Lent.part3 (Lent.el (Lent.fact 3 rfl) hc66.1 hc66.2) rfl hc67))) fun ho69=>J.storeRl 0 0 hc68 rfl rfl rfl rfl ho69 rfl<|J.rlset (k:=Int.toNat a62.1) 0 (vs:=b63) rfl (Lent.part3 (Lent.el (Lent.fact 3 rfl) hc66.1 hc66.2) rfl hc67)<|J.done<|J.inN<|J.thenN<|J.region<|J.quiet (Y.addW rfl rfl) rfl<|J.quiet (Y.move rfl) rfl<|J.done<|J.thenN ?_
      exact J.againI ((wI .i64 (a62.1+(1:Int))),(List.set a62.2 (Int.toNat a62.1) (List.drop (Int.toNat (0:Int)) (List.take (Int.toNat (2:Int)) (at' p1 a62.1))))) (List.set b63 (Int.toNat a62.1) (sl3 ((at' z4 a62.1).1) (Int.toNat (0:Int)) (Int.toNat (2:Int)) (Int.toNat (2:Int)) 1)) h SF (SubM.refl _) (LentAll.refl _ _)
     ·have h:=ifN hp65 h
      refine J.exit<|J.thenX<|J.thenX<|J.inX<|J.thenN ?_
      exact J.meetI (a62.2) (b63) h SF (SubM.refl _) (LentAll.refl _ _)
    ·clear h
     intro a56 b57 h
     unfold wave_Legit_k7 at h
     refine J.seq<|J.region<|J.quiet (Y.move rfl) rfl<|J.quiet (Y.assign rfl) rfl<|J.done<|J.thenN<|J.ret ?_
     exact J.retM (a56) (u53,b57) h (.inl rfl) (Res.r1 rfl (RV.tmp rfl)) rfl (SubM.refl _) (LentAll.refl _ _)
   ·clear h
    intro a47 b48 h
    unfold wave_Legit_k6 at h
    refine JR.tailD 8 rfl rfl ?_
    have h:=bnd h;obtain⟨r49,hr50,h⟩:=h
    refine J.loudG rfl (Loud.callL body43 (t_bfs_Legit fuel v0 v1 z2 b48.1 (List.zip b48.2 a47) r49 hr50) rfl (LentAll.cons (Lent.fact 1 rfl) (LentAll.cons (Lent.fact 2 rfl) (LentAll.cons (Lent.rowsL (i:=0) (j:=0) rfl rfl) .nil))) (fun _ _=>rfl)) rfl fun x51=>J.guardY rfl (Y.not rfl) rfl<|J.quiet (Y.pickF rfl rfl) rfl<|J.done<|J.thenN ?_
    exact J.meetI ((!r49)) (()) h SF (SubM.cons 1 rfl (SubM.nil)) (LentAll.cons (Lent.fact 1 rfl) (LentAll.cons (Lent.fact 2 rfl) (LentAll.cons (Lent.fact 3 rfl) .nil)))
 ·clear h
  intro a3 b4 h
  unfold wave_Legit_k1 at h
  refine J.cond (by exact rfl) (fun hp5=> ?_) (fun hp5=> ?_)
  ·have h:=ifP hp5 h
   refine J.seq<|J.region<|J.quiet (Y.assign rfl) rfl<|J.done<|J.thenN<|J.ret<|J.thenR ?_
   obtain rfl:=Option.some.inj h
   exact J.retG1 (()) rfl rfl (RV.tmp rfl) (SubM.nil) LentAll.nil
  ·have h:=ifBN hp5 h
   refine J.skip<|J.thenN<|J.seq<|J.midI (A:=Unit) (B:=Unit) (fun a6=>wave_Legit_k2  a6=some r) (fun a6 b7=>[]) (fun a6 b7=>[]) (fun a6 b7=>[Sl RI64 v0 p0.1,S2 RI64I64p v1 z2 p0.2,S2 RI64 v3 z4 p1]) ?_ ?_
   ·refine J.seq<|J.region<|J.quiet (Y.loadBAll 0 rfl rfl rfl rfl) rfl<|J.quiet (Y.move rfl) rfl ?_
    have h:=bnd h;obtain⟨r8,hr9,h⟩:=h
    refine J.loud (Loud.callL body92 (t_bfs_Towards fuel v0 v1 z2 v3 z4 r8 hr9) rfl (LentAll.cons (Lent.fact 0 rfl) (LentAll.cons (Lent.fact 1 rfl) (LentAll.cons (Lent.fact 2 rfl) .nil))) (fun _ _=>rfl)) rfl fun x10=>J.quiet (Y.lenS rfl (Lent.ar (Lent.res 0 rfl) FI64) rfl) rfl<|J.quiet (Y.move rfl) rfl<|J.done<|J.thenN<|J.block<|J.loopI (A:=Int) (B:=Unit) (wave_Legit_s1 p1 r8) (fun a13 b14=>[(1,v3),(20,x10),(21,Value.int .i64 (List.length r8:Int)),(22,Value.int .i64 (a13))]) (fun a13 b14=>[Ar EI64 x10 r8]) (fun a13 b14=>[Sl RI64 v0 p0.1,S2 RI64I64p v1 z2 p0.2,S2 RI64 v3 z4 p1]) (0:Int) (()) h SF (SubM.cons 0 rfl (SubM.nil)) (LentAll.refl _ _) ?_
    clear h
    intro k15 a13 b14 h
    unfold wave_Legit_s1 at h
    refine J.seq<|J.region<|J.quiet (Y.lss rfl rfl) rfl<|J.done<|J.thenN<|J.seq ?_
    refine J.condD (by exact rfl) (fun hp16=> ?_) (fun hp16=> ?_)
    ·have h:=ifP hp16 h
     refine J.skip<|J.thenN<|J.seq<|J.midI (A:=Unit) (B:=Unit) (fun a17=>wave_Legit_k3 a13 (iter (wave_Legit_s1 p1 r8) k15) a17=some r) (fun a17 b18=>[(1,v3),(20,x10),(21,Value.int .i64 (List.length r8:Int)),(22,Value.int .i64 (a13))]) (fun a17 b18=>[Ar EI64 x10 r8]) (fun a17 b18=>[Sl RI64 v0 p0.1,S2 RI64I64p v1 z2 p0.2,S2 RI64 v3 z4 p1]) ?_ ?_
     ·refine J.block<|J.seq<|J.region<|J.quiet (Y.move rfl) rfl ?_
      have h:=ck_some h;obtain⟨hc19,h⟩:=h
      refine J.quiet (Y.indexS rfl rfl (Lent.ar (Lent.res 0 rfl) FI64) rfl rfl hc19) rfl<|J.quiet (Y.loadS0 rfl (Lent.ar (Lent.res 0 rfl) FI64) rfl rfl rfl RI64c0 hc19) rfl<|J.quiet (Y.assign rfl) rfl<|J.quiet (Y.assign rfl) rfl<|J.done<|J.thenN<|J.seq<|J.seq<|J.midI (A:=Bool) (B:=Unit) (fun a21=>wave_Legit_k4 p1 r8 a13 (iter (wave_Legit_s1 p1 r8) k15) a21=some r) (fun a21 b22=>[(1,v3),(5,Value.int .i64 (a13)),(6,Value.int .i64 (at' r8 a13)),(20,x10),(21,Value.int .i64 (List.length r8:Int)),(22,Value.int .i64 (a13)),(37,Value.bool (a21))]) (fun a21 b22=>[Ar EI64 x10 r8]) (fun a21 b22=>[Sl RI64 v0 p0.1,S2 RI64I64p v1 z2 p0.2,S2 RI64 v3 z4 p1]) ?_ ?_
      ·refine J.region<|J.quiet (Y.move rfl) rfl<|J.quiet (Y.lss rfl rfl) rfl<|J.quiet (Y.move rfl) rfl ?_
       refine J.guardD (by exact rfl) (by exact rfl) (fun hp37=> ?_) (fun hp37=> ?_)
       ·have h:=ifP hp37 h
        refine J.guardN rfl rfl rfl<|J.guardN rfl rfl rfl<|J.guardN rfl rfl rfl<|J.guardN rfl rfl rfl<|J.guardN rfl rfl rfl<|J.guardN rfl rfl rfl<|J.guardN rfl rfl rfl<|J.quiet (Y.pickT rfl rfl) rfl<|J.done<|J.thenN ?_
        exact J.meetI (true) (()) h SF (SubM.refl _) (LentAll.refl _ _)
       ·have h:=ifN hp37 h
        refine J.guardY rfl (Y.move rfl) rfl<|J.guardY rfl (Y.move rfl) rfl ?_
        have h:=ck_some h;obtain⟨hc38,h⟩:=h
        refine J.guardY rfl (Y.indexN rfl rfl (Lent.fact 2 rfl) rfl rfl hc38) rfl<|J.guardY rfl (Y.loadRow rfl (Lent.fact 2 rfl) rfl rfl hc38) rfl ?_
        have h:=ck_some h;obtain⟨hc39,h⟩:=h
        refine J.guardY rfl (Y.indexS rfl rfl (Lent.el (Lent.fact 2 rfl) hc38.1 hc38.2) rfl rfl hc39) rfl<|J.guardY rfl (Y.loadS0 rfl (Lent.el (Lent.fact 2 rfl) hc38.1 hc38.2) rfl rfl rfl RI64c0 hc39) rfl<|J.guardY rfl (Y.eql rfl rfl) rfl<|J.quiet (Y.pickF rfl rfl) rfl<|J.done<|J.thenN ?_
        exact J.meetI (decide ((at' (at' p1 (at' r8 a13)) (2:Int))=(1:Int))) (()) h SF (SubM.refl _) (LentAll.refl _ _)
      ·clear h
       intro a21 b22 h
       unfold wave_Legit_k4 at h
       refine J.cond (by exact rfl) (fun hp23=> ?_) (fun hp23=> ?_)
       ·have h:=ifP hp23 h
        refine J.exit<|J.thenX<|J.inX<|J.thenN ?_
        exact J.meetI (()) (()) h SF (SubM.refl _) (LentAll.refl _ _)
       ·have h:=ifBN hp23 h
        refine J.skip<|J.thenN<|J.seq<|J.midI (A:=Bool) (B:=Unit) (fun a25=>wave_Legit_k5 a13 (iter (wave_Legit_s1 p1 r8) k15) a25=some r) (fun a25 b26=>[(1,v3),(20,x10),(21,Value.int .i64 (List.length r8:Int)),(22,Value.int .i64 (a13)),(65,Value.bool (a25))]) (fun a25 b26=>[Ar EI64 x10 r8]) (fun a25 b26=>[Sl RI64 v0 p0.1,S2 RI64I64p v1 z2 p0.2,S2 RI64 v3 z4 p1]) ?_ ?_
        ·refine JR.start [0,0,3,7,15,31,0,0,192,448,960,1984,4095,8191,16383,16383,65535,131071,262143,524287,16383,16383,3162111,7356415,15745023,32522239,67108863,134217727] 26 mixedOrders (by decide +kernel) ?_
         refine JR.open (by exact rfl) ?_
         refine JR.qt rfl (SubM.nil) (SubL.nil) (Y.move rfl) HistOk.z<|JR.qt rfl (SubM.nil) (SubL.nil) (Y.move rfl) HistOk.z ?_
         have h:=ck_some h;obtain⟨hc28,h⟩:=h
         refine JR.qt rfl (SubM.nil) (SubL.cons (List.mem_of_getElem? (i:=2) rfl) (SubL.nil)) (Y.indexN rfl rfl (Lent.fact 0 rfl) rfl rfl hc28) HistOk.z<|JR.qt rfl (SubM.nil) (SubL.cons (List.mem_of_getElem? (i:=2) rfl) (SubL.nil)) (Y.loadRow rfl (Lent.fact 0 rfl) rfl rfl hc28) HistOk.z ?_
         have h:=ck_some h;obtain⟨hc29,h⟩:=h
         refine JR.qt rfl (SubM.nil) (SubL.cons (List.mem_of_getElem? (i:=2) rfl) (SubL.nil)) (Y.indexS rfl rfl (Lent.el (Lent.fact 0 rfl) hc28.1 hc28.2) rfl rfl hc29) HistOk.z<|JR.qt rfl (SubM.nil) (SubL.cons (List.mem_of_getElem? (i:=2) rfl) (SubL.nil)) (Y.loadS0 rfl (Lent.el (Lent.fact 0 rfl) hc28.1 hc28.2) rfl rfl rfl RI64c0 hc29) HistOk.z<|JR.qt rfl (SubM.nil) (SubL.nil) (Y.move rfl) HistOk.z<|JR.qt rfl (SubM.nil) (SubL.nil) (Y.move rfl) HistOk.z ?_
         have h:=ck_some h;obtain⟨hc30,h⟩:=h
         refine JR.qt rfl (SubM.nil) (SubL.cons (List.mem_of_getElem? (i:=2) rfl) (SubL.nil)) (Y.indexN rfl rfl (Lent.fact 0 rfl) rfl rfl hc30) HistOk.z<|JR.qt rfl (SubM.nil) (SubL.cons (List.mem_of_getElem? (i:=2) rfl) (SubL.nil)) (Y.loadRow rfl (Lent.fact 0 rfl) rfl rfl hc30) HistOk.z ?_
         have h:=ck_some h;obtain⟨hc31,h⟩:=h
         refine JR.qt rfl (SubM.nil) (SubL.cons (List.mem_of_getElem? (i:=2) rfl) (SubL.nil)) (Y.indexS rfl rfl (Lent.el (Lent.fact 0 rfl) hc30.1 hc30.2) rfl rfl hc31) HistOk.z<|JR.qt rfl (SubM.nil) (SubL.cons (List.mem_of_getElem? (i:=2) rfl) (SubL.nil)) (Y.loadS0 rfl (Lent.el (Lent.fact 0 rfl) hc30.1 hc30.2) rfl rfl rfl RI64c0 hc31) HistOk.z<|JR.qt rfl (SubM.nil) (SubL.nil) (Y.neq rfl rfl) HistOk.z<|JR.qt rfl (SubM.nil) (SubL.nil) (Y.move rfl) HistOk.z ?_
         refine JR.guardD (by exact rfl) (by exact rfl) (by exact rfl) (fun hp32=> ?_) (fun hp32=> ?_)
         ·have h:=ifP hp32 h
          refine JR.guardN rfl rfl rfl rfl<|JR.guardN rfl rfl rfl rfl<|JR.guardN rfl rfl rfl rfl<|JR.guardN rfl rfl rfl rfl<|JR.guardN rfl rfl rfl rfl<|JR.guardN rfl rfl rfl rfl<|JR.guardN rfl rfl rfl rfl<|JR.guardN rfl rfl rfl rfl<|JR.guardN rfl rfl rfl rfl<|JR.guardN rfl rfl rfl rfl<|JR.guardN rfl rfl rfl rfl<|JR.guardN rfl rfl rfl rfl<|JR.tailD 26 rfl rfl<|J.guardN rfl rfl rfl<|J.quiet (Y.pickT rfl rfl) rfl<|J.done<|J.thenN ?_
          exact J.meetI (true) (()) h SF (SubM.refl _) (LentAll.refl _ _)
         ·have h:=ifN hp32 h
          refine JR.qtG rfl (SubM.nil) (SubL.nil) (Y.move rfl) HistOk.z<|JR.qtG rfl (SubM.nil) (SubL.nil) (Y.move rfl) HistOk.z ?_
          have h:=ck_some h;obtain⟨hc33,h⟩:=h
          refine JR.qtG rfl (SubM.nil) (SubL.cons (List.mem_of_getElem? (i:=2) rfl) (SubL.nil)) (Y.indexN rfl rfl (Lent.fact 0 rfl) rfl rfl hc33) HistOk.z<|JR.qtG rfl (SubM.nil) (SubL.cons (List.mem_of_getElem? (i:=2) rfl) (SubL.nil)) (Y.loadRow rfl (Lent.fact 0 rfl) rfl rfl hc33) HistOk.z ?_
          have h:=ck_some h;obtain⟨hc34,h⟩:=h
          refine JR.qtG rfl (SubM.nil) (SubL.cons (List.mem_of_getElem? (i:=2) rfl) (SubL.nil)) (Y.indexS rfl rfl (Lent.el (Lent.fact 0 rfl) hc33.1 hc33.2) rfl rfl hc34) HistOk.z<|JR.qtG rfl (SubM.nil) (SubL.cons (List.mem_of_getElem? (i:=2) rfl) (SubL.nil)) (Y.loadS0 rfl (Lent.el (Lent.fact 0 rfl) hc33.1 hc33.2) rfl rfl rfl RI64c0 hc34) HistOk.z<|JR.qtG rfl (SubM.nil) (SubL.nil) (Y.move rfl) HistOk.z<|JR.qtG rfl (SubM.nil) (SubL.nil) (Y.move rfl) HistOk.z ?_
          have h:=ck_some h;obtain⟨hc35,h⟩:=h
          refine JR.qtG rfl (SubM.nil) (SubL.cons (List.mem_of_getElem? (i:=2) rfl) (SubL.nil)) (Y.indexN rfl rfl (Lent.fact 0 rfl) rfl rfl hc35) HistOk.z<|JR.qtG rfl (SubM.nil) (SubL.cons (List.mem_of_getElem? (i:=2) rfl) (SubL.nil)) (Y.loadRow rfl (Lent.fact 0 rfl) rfl rfl hc35) HistOk.z ?_
          have h:=ck_some h;obtain⟨hc36,h⟩:=h
          refine JR.qtG rfl (SubM.nil) (SubL.cons (List.mem_of_getElem? (i:=2) rfl) (SubL.nil)) (Y.indexS rfl rfl (Lent.el (Lent.fact 0 rfl) hc35.1 hc35.2) rfl rfl hc36) HistOk.z<|JR.qtG rfl (SubM.nil) (SubL.cons (List.mem_of_getElem? (i:=2) rfl) (SubL.nil)) (Y.loadS0 rfl (Lent.el (Lent.fact 0 rfl) hc35.1 hc35.2) rfl rfl rfl RI64c0 hc36) HistOk.z<|JR.tailD 26 rfl rfl<|J.guardY rfl (Y.neq rfl rfl) rfl<|J.quiet (Y.pickF rfl rfl) rfl<|J.done<|J.thenN ?_
          exact J.meetI (decide ((at' (at' p1 a13) (3:Int))≠(at' (at' p1 (at' r8 a13)) (3:Int)))) (()) h SF (SubM.refl _) (LentAll.refl _ _)
        ·clear h
         intro a25 b26 h
         unfold wave_Legit_k5 at h
         refine J.cond (by exact rfl) (fun hp27=> ?_) (fun hp27=> ?_)
         ·have h:=ifP hp27 h
          refine J.seq<|J.region<|J.quiet (Y.assign rfl) rfl<|J.done<|J.thenN<|J.ret<|J.inR<|J.thenR<|J.thenR<|J.inR<|J.thenR ?_
          obtain rfl:=Option.some.inj h
          exact J.retG1 (()) rfl rfl (RV.tmp rfl) (SubM.nil) LentAll.nil
         ·have h:=ifBN hp27 h
          refine J.skip<|J.inN<|J.thenN ?_
          exact J.meetI (()) (()) h SF (SubM.refl _) (LentAll.refl _ _)
     ·clear h
      intro a17 b18 h
      unfold wave_Legit_k3 at h
      refine J.region<|J.quiet (Y.addW rfl rfl) rfl<|J.quiet (Y.move rfl) rfl<|J.done<|J.thenN ?_
      exact J.againI (wI .i64 (a13+(1:Int))) (()) h SF (SubM.refl _) (LentAll.refl _ _)
    ·have h:=ifN hp16 h
     refine J.exit<|J.thenX<|J.thenX<|J.inX<|J.thenN ?_
     exact J.meetI (()) (()) h SF (SubM.nil) (LentAll.refl _ _)
   ·clear h
    intro a6 b7 h
    unfold wave_Legit_k2 at h
    refine J.seq<|J.region<|J.quiet (Y.assign rfl) rfl<|J.done<|J.thenN<|J.ret ?_
    obtain rfl:=Option.some.inj h
    exact J.retG1 (()) rfl rfl (RV.tmp rfl) (SubM.refl _) LentAll.nil
end Go.Proofs.YtfbkplemadmbfaaGreatDoor
end
section
namespace Go.Proofs.YtfbkplemadmbfaaGreatDoor
open Go.Sx
def snapshot_sums_k1  (a8:List (Int)):Option (List (Int)):=
 some (a8)
def snapshot_sums_k2 (a13:Int×List (Int)) (ag12:(Int×List (Int))->Option (List (Int))) (a18:List (Int)):Option (List (Int)):=
 ag12 ((wI .i64 (a13.1+(1:Int))),a18)
def snapshot_sums_s2 (p1:List (List (Int))) (r2:List (Int)) (a13:Int×List (Int)) (ag12:(Int×List (Int))->Option (List (Int))) (a23:Int×List (Int)) (ag22:(Int×List (Int))->Option (List (Int))):Option (List (Int)):=
 if(0:Int)<=a23.1 then(ck (0<=a23.1∧a23.1<(List.length a23.2:Int)) (ck (0<=a13.1∧a13.1<(List.length p1:Int)) (ck (0<=(4:Int)∧(4:Int)<(List.length (at' p1 a13.1):Int)) (ck (0<=a23.1∧a23.1<(List.length a23.2:Int)) (ck (0<=a23.1∧a23.1<(List.length r2:Int)) (ag22 ((at' r2 a23.1),(List.set a23.2 (Int.toNat a23.1) (wI .i64 ((at' a23.2 a23.1)+(at' (at' p1 a13.1) (4:Int))))))))))))else(snapshot_sums_k2 a13 ag12 (a23.2))
def snapshot_sums_s1 (fuel:Nat) (p1:List (List (Int))) (r2:List (Int)) (a13:Int×List (Int)) (ag12:(Int×List (Int))->Option (List (Int))):Option (List (Int)):=
 if a13.1<(List.length p1:Int)then(iter (snapshot_sums_s2 p1 r2 a13 ag12) fuel (a13.1,a13.2))else(snapshot_sums_k1  (a13.2))
def m_snapshot_sums (fuel:Nat) (p0:List (Int)×(List (List (Int×Int)))) (p1:List (List (Int))):Option (List (Int)):=
 Option.bind (m_bfs_Towards fuel ((p0.1,p0.2)) p1 (1:Int)) fun r2=>(ck (0<=(List.length p1:Int)∧(List.length p1:Int)<=1099511627) (iter (snapshot_sums_s1 fuel p1 r2) fuel ((0:Int),(List.replicate (Int.toNat (List.length p1:Int)) (0:Int)))))
theorem body56:HasBody Tryz.prog 56:=Tryz.call56
theorem t_snapshot_sums (fuel:Nat) {p0:List (Int)×(List (List (Int×Int)))} {p1:List (List (Int))} (v0:Value)  (v1:Value)  (z2:List (Value×List (Int×Int)))  (v3:Value)  (z4:List (Value×List (Int))) (r:List (Int)) (h:m_snapshot_sums fuel p0 p1=some r):
  Meets Tryz.prog 56 #[Value.agg #[v0,v1],v3] [Sl RI64 v0 p0.1,S2 RI64I64p v1 z2 p0.2,S2 RI64 v3 z4 p1] (fun x:Value=>x) (fun x l=>Ar EI64 x r::l) (fun _ l=>l):=by
 refine Meets.of (vs:=[Value.agg #[v0,v1],v3]) Tryz.func56 rfl Tryz.ntmps56 rfl fun c=> ?_
 unfold m_snapshot_sums at h
 refine J.seq<|J.region<|J.loud (Loud.box (cs:=[v0,v1]) rfl rfl) rfl fun b1=>J.quiet (Y.assign rfl) rfl<|J.done<|J.thenN<|J.seq<|J.region<|J.quiet (Y.loadBAll 0 rfl rfl rfl rfl) rfl<|J.quiet (Y.move rfl) rfl ?_
 have h:=bnd h;obtain⟨r2,hr3,h⟩:=h
 refine J.loud (Loud.callL body92 (t_bfs_Towards fuel v0 v1 z2 v3 z4 r2 hr3) rfl (LentAll.cons (Lent.fact 0 rfl) (LentAll.cons (Lent.fact 1 rfl) (LentAll.cons (Lent.fact 2 rfl) .nil))) (fun _ _=>rfl)) rfl fun x4=>J.quiet (Y.assign rfl) rfl<|J.done<|J.thenN<|J.seq<|J.region<|J.quiet (Y.move rfl) rfl<|J.quiet (Y.lenN rfl (Lent.fact 2 rfl) rfl) rfl ?_
 have h:=ck_some h;obtain⟨hc5,h⟩:=h
 refine J.loud (Loud.makeS (e:=EI64) (0:Int) rfl rfl rfl rfl hc5 rfl rfl rfl) rfl fun u6=>J.quiet (Y.assign rfl) rfl<|J.done<|J.thenN<|J.seq<|J.midI (A:=List (Int)) (B:=Unit) (fun a8=>snapshot_sums_k1  a8=some r) (fun a8 b9=>[(6,u6)]) (fun a8 b9=>[Ar EI64 u6 a8]) (fun a8 b9=>[Sl RI64 v0 p0.1,S2 RI64I64p v1 z2 p0.2,S2 RI64 v3 z4 p1]) ?_ ?_
 ·refine J.seq<|J.region<|J.quiet (Y.move rfl) rfl<|J.quiet (Y.lenN rfl (Lent.fact 2 rfl) rfl) rfl<|J.quiet (Y.move rfl) rfl<|J.done<|J.thenN<|J.block<|J.loopI (A:=Int×List (Int)) (B:=Unit) (snapshot_sums_s1 fuel p1 r2) (fun a13 b14=>[(1,v3),(5,x4),(6,u6),(16,Value.int .i64 (List.length p1:Int)),(17,Value.int .i64 (a13.1))]) (fun a13 b14=>[Ar EI64 u6 a13.2,Ar EI64 x4 r2]) (fun a13 b14=>[Sl RI64 v0 p0.1,S2 RI64I64p v1 z2 p0.2,S2 RI64 v3 z4 p1]) ((0:Int),(List.replicate (Int.toNat (List.length p1:Int)) (0:Int))) (()) h SF (SubM.cons 0 rfl (SubM.cons 0 rfl (SubM.nil))) (LentAll.refl _ _) ?_
  clear h
  intro k15 a13 b14 h
  unfold snapshot_sums_s1 at h
  refine J.seq<|J.region<|J.quiet (Y.lss rfl rfl) rfl<|J.done<|J.thenN<|J.seq ?_
  refine J.condD (by exact rfl) (fun hp16=> ?_) (fun hp16=> ?_)
  ·have h:=ifP hp16 h
   refine J.skip<|J.thenN<|J.seq<|J.midI (A:=List (Int)) (B:=Unit) (fun a18=>snapshot_sums_k2 a13 (iter (snapshot_sums_s1 fuel p1 r2) k15) a18=some r) (fun a18 b19=>[(1,v3),(5,x4),(6,u6),(16,Value.int .i64 (List.length p1:Int)),(17,Value.int .i64 (a13.1))]) (fun a18 b19=>[Ar EI64 u6 a18,Ar EI64 x4 r2]) (fun a18 b19=>[Sl RI64 v0 p0.1,S2 RI64I64p v1 z2 p0.2,S2 RI64 v3 z4 p1]) ?_ ?_
   ·refine J.block<|J.seq<|J.region<|J.quiet (Y.move rfl) rfl<|J.quiet (Y.assign rfl) rfl<|J.done<|J.thenN<|J.seq<|J.region<|J.quiet (Y.move rfl) rfl<|J.quiet (Y.assign rfl) rfl<|J.done<|J.thenN<|J.block<|J.loopI (A:=Int×List (Int)) (B:=Unit) (snapshot_sums_s2 p1 r2 a13 (iter (snapshot_sums_s1 fuel p1 r2) k15)) (fun a23 b24=>[(1,v3),(5,x4),(6,u6),(7,Value.int .i64 (a13.1)),(8,Value.int .i64 (a23.1)),(16,Value.int .i64 (List.length p1:Int)),(17,Value.int .i64 (a13.1))]) (fun a23 b24=>[Ar EI64 u6 a23.2,Ar EI64 x4 r2]) (fun a23 b24=>[Sl RI64 v0 p0.1,S2 RI64I64p v1 z2 p0.2,S2 RI64 v3 z4 p1]) (a13.1,a13.2) (()) h SF (SubM.refl _) (LentAll.refl _ _) ?_
    clear h
    intro k25 a23 b24 h
    unfold snapshot_sums_s2 at h
    refine J.seq<|J.seq<|J.region<|J.quiet (Y.move rfl) rfl<|J.quiet (Y.geq rfl rfl) rfl<|J.done<|J.thenN ?_
    refine J.condD (by exact rfl) (fun hp26=> ?_) (fun hp26=> ?_)
    ·have h:=ifP hp26 h
     refine J.skip<|J.thenN<|J.seq<|J.block ?_
     refine JR.start [0,0,3,7,0,0,48,112,240,496,1023,2047,4095] 10 mixedOrders (by decide +kernel) ?_
     refine JR.open (by exact rfl) ?_
     refine JR.qt rfl (SubM.nil) (SubL.nil) (Y.move rfl) HistOk.z<|JR.qt rfl (SubM.nil) (SubL.nil) (Y.move rfl) HistOk.z ?_
     have h:=ck_some h;obtain⟨hc27,h⟩:=h
     refine JR.qt rfl (SubM.cons 0 rfl (SubM.nil)) (SubL.nil) (Y.indexS rfl rfl (Lent.ar (Lent.res 0 rfl) FI64) rfl rfl hc27) HistOk.z<|JR.qt rfl (SubM.cons 0 rfl (SubM.nil)) (SubL.nil) (Y.loadS0 rfl (Lent.ar (Lent.res 0 rfl) FI64) rfl rfl rfl RI64c0 hc27) HistOk.z<|JR.qt rfl (SubM.nil) (SubL.nil) (Y.move rfl) HistOk.z<|JR.qt rfl (SubM.nil) (SubL.nil) (Y.move rfl) HistOk.z ?_
     have h:=ck_some h;obtain⟨hc28,h⟩:=h
     refine JR.qt rfl (SubM.nil) (SubL.cons (List.mem_of_getElem? (i:=2) rfl) (SubL.nil)) (Y.indexN rfl rfl (Lent.fact 0 rfl) rfl rfl hc28) HistOk.z<|JR.qt rfl (SubM.nil) (SubL.cons (List.mem_of_getElem? (i:=2) rfl) (SubL.nil)) (Y.loadRow rfl (Lent.fact 0 rfl) rfl rfl hc28) HistOk.z ?_
     have h:=ck_some h;obtain⟨hc29,h⟩:=h
     refine JR.qt rfl (SubM.nil) (SubL.cons (List.mem_of_getElem? (i:=2) rfl) (SubL.nil)) (Y.indexS rfl rfl (Lent.el (Lent.fact 0 rfl) hc28.1 hc28.2) rfl rfl hc29) HistOk.z<|JR.qt rfl (SubM.nil) (SubL.cons (List.mem_of_getElem? (i:=2) rfl) (SubL.nil)) (Y.loadS0 rfl (Lent.el (Lent.fact 0 rfl) hc28.1 hc28.2) rfl rfl rfl RI64c0 hc29) HistOk.z<|JR.tailD 10 rfl rfl<|J.quiet (Y.addW rfl rfl) rfl ?_
     have h:=ck_some h;obtain⟨hc30,h⟩:=h
     refine J.quiet (Y.indexS rfl rfl (Lent.ar (Lent.res 0 rfl) FI64) rfl rfl hc30) rfl<|J.storeS 0 (wI .i64 ((at' a23.2 a23.1)+(at' (at' p1 a13.1) (4:Int)))) hc30 rfl rfl rfl rfl rfl rfl rfl<|J.done<|J.inN<|J.thenN<|J.region<|J.quiet (Y.move rfl) rfl<|J.quiet (Y.move rfl) rfl ?_
     have h:=ck_some h;obtain⟨hc31,h⟩:=h
     refine J.quiet (Y.indexS rfl rfl (Lent.ar (Lent.res 1 rfl) FI64) rfl rfl hc31) rfl<|J.quiet (Y.loadS0 rfl (Lent.ar (Lent.res 1 rfl) FI64) rfl rfl rfl RI64c0 hc31) rfl<|J.quiet (Y.assign rfl) rfl<|J.done<|J.thenN ?_
     exact J.againI ((at' r2 a23.1),(List.set a23.2 (Int.toNat a23.1) (wI .i64 ((at' a23.2 a23.1)+(at' (at' p1 a13.1) (4:Int)))))) (()) h SF (SubM.refl _) (LentAll.refl _ _)
    ·have h:=ifN hp26 h
     refine J.exit<|J.thenX<|J.thenX<|J.inX<|J.inN<|J.thenN ?_
     exact J.meetI (a23.2) (()) h SF (SubM.refl _) (LentAll.refl _ _)
   ·clear h
    intro a18 b19 h
    unfold snapshot_sums_k2 at h
    refine J.region<|J.quiet (Y.addW rfl rfl) rfl<|J.quiet (Y.move rfl) rfl<|J.done<|J.thenN ?_
    exact J.againI ((wI .i64 (a13.1+(1:Int))),a18) (()) h SF (SubM.refl _) (LentAll.refl _ _)
  ·have h:=ifN hp16 h
   refine J.exit<|J.thenX<|J.thenX<|J.inX<|J.thenN ?_
   exact J.meetI (a13.2) (()) h SF (SubM.cons 0 rfl (SubM.nil)) (LentAll.refl _ _)
 ·clear h
  intro a8 b9 h
  unfold snapshot_sums_k1 at h
  refine J.seq<|J.region<|J.quiet (Y.move rfl) rfl<|J.quiet (Y.assign rfl) rfl<|J.done<|J.thenN<|J.ret ?_
  obtain rfl:=Option.some.inj h
  exact J.retG1 (u6) rfl rfl (RV.tmp rfl) (SubM.refl _) LentAll.nil
end Go.Proofs.YtfbkplemadmbfaaGreatDoor
end
section
namespace Go.Proofs.YtfbkplemadmbfaaGreatDoor
open Go.Sx
def snapshot_Legit_k2  (a6:Unit):Option (Bool):=
 some (true)
def snapshot_Legit_s1 (p1:List (List (Int))) (r8:List (Int)) (a13:Int) (ag12:(Int)->Option (Bool)):Option (Bool):=
 if a13<(List.length r8:Int)then(ck (0<=a13∧a13<(List.length r8:Int)) (ck (0<=a13∧a13<(List.length p1:Int)) (ck (0<=(5:Int)∧(5:Int)<(List.length (at' p1 a13):Int)) (if(at' (at' p1 a13) (5:Int))≠(at' r8 a13)then(some (false))else(ag12 (wI .i64 (a13+(1:Int))))))))else(snapshot_Legit_k2  (()))
def snapshot_Legit_k1 (fuel:Nat) (p0:List (Int)×(List (List (Int×Int)))) (p1:List (List (Int))) (a3:Bool):Option (Bool):=
 if a3=true then(some (false))else(Option.bind (m_snapshot_sums fuel ((p0.1,p0.2)) p1) fun r8=>(iter (snapshot_Legit_s1 p1 r8) fuel (0:Int)))
def snapshot_Legit_k3 (fuel:Nat) (p0:List (Int)×(List (List (Int×Int)))) (p1:List (List (Int))) (a28:List (List (Int))):Option (Bool):=
 Option.bind (m_wave_Legit fuel ((p0.1,p0.2)) a28) fun r30=>(snapshot_Legit_k1 fuel p0 p1 ((!r30)))
def snapshot_Legit_k4 (fuel:Nat) (p0:List (Int)×(List (List (Int×Int)))) (p1:List (List (Int))) (a37:List (List (Int))):Option (Bool):=
 snapshot_Legit_k3 fuel p0 p1 (a37)
def snapshot_Legit_s2 (fuel:Nat) (p0:List (Int)×(List (List (Int×Int)))) (p1:List (List (Int))) (a43:Int×List (List (Int))) (ag42:(Int×List (List (Int)))->Option (Bool)):Option (Bool):=
 if a43.1<(List.length p1:Int)then(ck (0<=a43.1∧a43.1<(List.length p1:Int)) (ck (0<=(0:Int)∧(0:Int)<=(4:Int)∧(4:Int)<=(4:Int)∧(4:Int)<=(List.length (at' p1 a43.1):Int)) (ck (0<=a43.1∧a43.1<(List.length a43.2:Int)) (ag42 ((wI .i64 (a43.1+(1:Int))),(List.set a43.2 (Int.toNat a43.1) (List.drop (Int.toNat (0:Int)) (List.take (Int.toNat (4:Int)) (at' p1 a43.1)))))))))else(snapshot_Legit_k4 fuel p0 p1 (a43.2))
def m_snapshot_Legit (fuel:Nat) (p0:List (Int)×(List (List (Int×Int)))) (p1:List (List (Int))):Option (Bool):=
 Option.bind (m_snapshot_configuration fuel ((p0.1,p0.2)) p1) fun r21=>(if(!r21)=true then(snapshot_Legit_k1 fuel p0 p1 (true))else(ck (0<=(List.length p1:Int)∧(List.length p1:Int)<=1099511627) (iter (snapshot_Legit_s2 fuel p0 p1) fuel ((0:Int),(List.replicate (Int.toNat (List.length p1:Int)) ([]:List Int))))))
theorem body23:HasBody Tryz.prog 23:=Tryz.call23
theorem t_snapshot_Legit (fuel:Nat) {p0:List (Int)×(List (List (Int×Int)))} {p1:List (List (Int))} (v0:Value)  (v1:Value)  (z2:List (Value×List (Int×Int)))  (v3:Value)  (z4:List (Value×List (Int))) (r:Bool) (h:m_snapshot_Legit fuel p0 p1=some r):
  Meets Tryz.prog 23 #[Value.agg #[v0,v1],v3] [Sl RI64 v0 p0.1,S2 RI64I64p v1 z2 p0.2,S2 RI64 v3 z4 p1] (fun x:Unit=>Value.bool (r)) (fun x l=>l) (fun _ l=>l):=by
 refine Meets.of (vs:=[Value.agg #[v0,v1],v3]) Tryz.func23 rfl Tryz.ntmps23 rfl fun c=> ?_
 unfold m_snapshot_Legit at h
 refine J.seq<|J.region<|J.loud (Loud.box (cs:=[v0,v1]) rfl rfl) rfl fun b1=>J.quiet (Y.assign rfl) rfl<|J.done<|J.thenN<|J.seq<|J.seq<|J.midI (A:=Bool) (B:=Unit) (fun a3=>snapshot_Legit_k1 fuel p0 p1 a3=some r) (fun a3 b4=>[(1,v3),(2,Value.pointer (some ⟨b1,0,none⟩)),(17,Value.bool (a3))]) (fun a3 b4=>[Blk b1 [v0,v1] 25]) (fun a3 b4=>[Sl RI64 v0 p0.1,S2 RI64I64p v1 z2 p0.2,S2 RI64 v3 z4 p1]) ?_ ?_
 ·refine JR.start [0,0,3,7,15,31,31,95,255,511,1023] 8 mixedOrders (by decide +kernel) ?_
  refine JR.open (by exact rfl) ?_
  refine JR.qt rfl (SubM.refl _) (SubL.nil) (Y.loadBAll 0 rfl rfl rfl rfl) HistOk.z<|JR.qt rfl (SubM.nil) (SubL.nil) (Y.move rfl) HistOk.z ?_
  have h:=bnd h;obtain⟨r21,hr22,h⟩:=h
  refine JR.loud rfl rfl rfl (Loud.callL body53 (t_snapshot_configuration fuel v0 v1 z2 v3 z4 r21 hr22) rfl (LentAll.cons (Lent.fact 0 rfl) (LentAll.cons (Lent.fact 1 rfl) (LentAll.cons (Lent.fact 2 rfl) .nil))) (fun _ _=>rfl)) rfl (fun x23=>(BsOk.b rfl (BsOk.b rfl BsOk.z))) fun x23=>JR.qt rfl (SubM.nil) (SubL.nil) (Y.not rfl) (HistOk.b rfl HistOk.z)<|JR.qt rfl (SubM.nil) (SubL.nil) (Y.move rfl) (HistOk.b rfl HistOk.z) ?_
  refine JR.guard (by exact rfl) (by exact rfl) (by exact rfl) (fun hp24=> ?_) (fun hp24=> ?_)
  ·have h:=ifP hp24 h
   refine JR.guardN rfl rfl rfl rfl<|JR.guardN rfl rfl rfl rfl<|JR.guardN rfl rfl rfl rfl<|JR.tailD 8 rfl rfl<|J.guardN rfl rfl rfl<|J.guardN rfl rfl rfl<|J.quiet (Y.pickT rfl rfl) rfl<|J.done<|J.thenN ?_
   exact J.meetI (true) (()) h SF (SubM.refl _) (LentAll.refl _ _)
  ·have h:=ifBN hp24 h
   refine JR.qtG rfl (SubM.refl _) (SubL.nil) (Y.loadBAll 0 rfl rfl rfl rfl) (HistOk.b rfl HistOk.z)<|JR.qtG rfl (SubM.nil) (SubL.nil) (Y.move rfl) (HistOk.b rfl HistOk.z)<|JR.inlCG (A:=List (List (Int))) (B:=Value×List Value) (vs:=[v3]) (fun a28=>snapshot_Legit_k3 fuel p0 p1 a28=some r) (fun a28 b29=>b29.1) (fun a28 b29=>[Ar Enc.raw b29.1 b29.2,Blk b1 [v0,v1] 25]) (fun a28 b29=>[Rlf RI64 b29.2 a28,Sl RI64 v0 p0.1,S2 RI64I64p v1 z2 p0.2,S2 RI64 v3 z4 p1]) rfl rfl rfl rfl (Enter.fn (show HasBody Tryz.prog 55 from Tryz.call55) rfl) Tryz.func55 rfl Tryz.ntmps55 rfl rfl (fun _ _=>(BsOk.b rfl (BsOk.h (SubM.cons 1 rfl (SubM.nil)) (SubL.nil) (BsOk.b rfl (BsOk.b rfl (BsOk.b rfl (BsOk.b rfl BsOk.z))))))) ?_ ?_
   ·refine J.seq<|J.region<|J.quiet (Y.assign rfl) rfl<|J.done<|J.thenN<|J.seq<|J.region<|J.quiet (Y.move rfl) rfl<|J.quiet (Y.lenN rfl (Lent.fact 2 rfl) rfl) rfl ?_
    have h:=ck_some h;obtain⟨hc33,h⟩:=h
    refine J.addRl RI64 (Int.toNat (List.length p1:Int))<|J.loud (Loud.makeS (e:=Enc.raw) (Value.slice none 0 0) rfl rfl rfl rfl hc33 rfl rfl rfl) rfl fun u34=>J.quiet (Y.assign rfl) rfl<|J.done<|J.thenN<|J.seq<|J.midI (A:=List (List (Int))) (B:=List Value) (fun a37=>snapshot_Legit_k4 fuel p0 p1 a37=some r) (fun a37 b38=>[(3,u34)]) (fun a37 b38=>[Ar Enc.raw u34 b38,Blk b1 [v0,v1] 25]) (fun a37 b38=>[Rlf RI64 b38 a37,Sl RI64 v0 p0.1,S2 RI64I64p v1 z2 p0.2,S2 RI64 v3 z4 p1]) ?_ ?_
    ·refine J.seq<|J.region<|J.quiet (Y.move rfl) rfl<|J.quiet (Y.lenN rfl (Lent.fact 3 rfl) rfl) rfl<|J.quiet (Y.move rfl) rfl<|J.done<|J.thenN<|J.block<|J.loopI (A:=Int×List (List (Int))) (B:=List Value) (snapshot_Legit_s2 fuel p0 p1) (fun a43 b44=>[(3,u34),(9,v3),(10,Value.int .i64 (List.length p1:Int)),(11,Value.int .i64 (a43.1))]) (fun a43 b44=>[Ar Enc.raw u34 b44,Blk b1 [v0,v1] 25]) (fun a43 b44=>[Rlf RI64 b44 a43.2,Sl RI64 v0 p0.1,S2 RI64I64p v1 z2 p0.2,S2 RI64 v3 z4 p1]) ((0:Int),(List.replicate (Int.toNat (List.length p1:Int)) ([]:List Int))) (List.replicate (Int.toNat (List.length p1:Int)) (Value.slice none 0 0)) h SF (SubM.refl _) (LentAll.refl _ _) ?_
     clear h
     intro k45 a43 b44 h
     unfold snapshot_Legit_s2 at h
     refine J.seq<|J.region<|J.quiet (Y.lss rfl rfl) rfl<|J.done<|J.thenN<|J.seq ?_
     refine J.condD (by exact rfl) (fun hp46=> ?_) (fun hp46=> ?_)
     ·have h:=ifP hp46 h
      refine J.skip<|J.thenN<|J.seq<|J.block<|J.seq<|J.region<|J.quiet (Y.move rfl) rfl ?_
      have h:=ck_some h;obtain⟨hc47,h⟩:=h
      refine J.quiet (Y.indexN rfl rfl (Lent.fact 3 rfl) rfl rfl hc47) rfl<|J.quiet (Y.loadRow rfl (Lent.fact 3 rfl) rfl rfl hc47) rfl<|J.quiet (Y.assign rfl) rfl<|J.quiet (Y.assign rfl) rfl<|J.done<|J.thenN<|J.region<|J.quiet (Y.move rfl) rfl<|J.quiet (Y.move rfl) rfl<|J.quiet (Y.move rfl) rfl ?_
      have h:=ck_some h;obtain⟨hc48,h⟩:=h
      refine J.quiet (Y.slice3R rfl rfl rfl rfl (Lent.el (Lent.fact 3 rfl) hc47.1 hc47.2) rfl rfl hc48) rfl ?_
      have h:=ck_some h;obtain⟨hc49,h⟩:=h
      refine J.quiet (Y.indexN rfl rfl (Lent.rowsL (i:=0) (j:=0) rfl rfl) rfl rfl hc49) rfl<|J.know (Know.one ((Lent.part3 (Lent.el (Lent.fact 3 rfl) hc47.1 hc47.2) rfl hc48))) fun ho50=>J.storeRl 0 0 hc49 rfl rfl rfl rfl ho50 rfl<|J.rlset (k:=Int.toNat a43.1) 0 (vs:=b44) rfl (Lent.part3 (Lent.el (Lent.fact 3 rfl) hc47.1 hc47.2) rfl hc48)<|J.done<|J.inN<|J.thenN<|J.region<|J.quiet (Y.addW rfl rfl) rfl<|J.quiet (Y.move rfl) rfl<|J.done<|J.thenN ?_
      exact J.againI ((wI .i64 (a43.1+(1:Int))),(List.set a43.2 (Int.toNat a43.1) (List.drop (Int.toNat (0:Int)) (List.take (Int.toNat (4:Int)) (at' p1 a43.1))))) (List.set b44 (Int.toNat a43.1) (sl3 ((at' z4 a43.1).1) (Int.toNat (0:Int)) (Int.toNat (4:Int)) (Int.toNat (4:Int)) 1)) h SF (SubM.refl _) (LentAll.refl _ _)
     ·have h:=ifN hp46 h
      refine J.exit<|J.thenX<|J.thenX<|J.inX<|J.thenN ?_
      exact J.meetI (a43.2) (b44) h SF (SubM.refl _) (LentAll.refl _ _)
    ·clear h
     intro a37 b38 h
     unfold snapshot_Legit_k4 at h
     refine J.seq<|J.region<|J.quiet (Y.move rfl) rfl<|J.quiet (Y.assign rfl) rfl<|J.done<|J.thenN<|J.ret ?_
     exact J.retM (a37) (u34,b38) h (.inl rfl) (Res.r1 rfl (RV.tmp rfl)) rfl (SubM.refl _) (LentAll.refl _ _)
   ·clear h
    intro a28 b29 h
    unfold snapshot_Legit_k3 at h
    refine JR.tailD 8 rfl rfl ?_
    have h:=bnd h;obtain⟨r30,hr31,h⟩:=h
    refine J.loudG rfl (Loud.callL body54 (t_wave_Legit fuel v0 v1 z2 b29.1 (List.zip b29.2 a28) r30 hr31) rfl (LentAll.cons (Lent.fact 1 rfl) (LentAll.cons (Lent.fact 2 rfl) (LentAll.cons (Lent.rowsL (i:=0) (j:=0) rfl rfl) .nil))) (fun _ _=>rfl)) rfl fun x32=>J.guardY rfl (Y.not rfl) rfl<|J.quiet (Y.pickF rfl rfl) rfl<|J.done<|J.thenN ?_
    exact J.meetI ((!r30)) (()) h SF (SubM.cons 1 rfl (SubM.nil)) (LentAll.cons (Lent.fact 1 rfl) (LentAll.cons (Lent.fact 2 rfl) (LentAll.cons (Lent.fact 3 rfl) .nil)))
 ·clear h
  intro a3 b4 h
  unfold snapshot_Legit_k1 at h
  refine J.cond (by exact rfl) (fun hp5=> ?_) (fun hp5=> ?_)
  ·have h:=ifP hp5 h
   refine J.seq<|J.region<|J.quiet (Y.assign rfl) rfl<|J.done<|J.thenN<|J.ret<|J.thenR ?_
   obtain rfl:=Option.some.inj h
   exact J.retG1 (()) rfl rfl (RV.tmp rfl) (SubM.nil) LentAll.nil
  ·have h:=ifBN hp5 h
   refine J.skip<|J.thenN<|J.seq<|J.midI (A:=Unit) (B:=Unit) (fun a6=>snapshot_Legit_k2  a6=some r) (fun a6 b7=>[]) (fun a6 b7=>[]) (fun a6 b7=>[Sl RI64 v0 p0.1,S2 RI64I64p v1 z2 p0.2,S2 RI64 v3 z4 p1]) ?_ ?_
   ·refine J.seq<|J.region<|J.quiet (Y.loadBAll 0 rfl rfl rfl rfl) rfl<|J.quiet (Y.move rfl) rfl ?_
    have h:=bnd h;obtain⟨r8,hr9,h⟩:=h
    refine J.loud (Loud.callL body56 (t_snapshot_sums fuel v0 v1 z2 v3 z4 r8 hr9) rfl (LentAll.cons (Lent.fact 0 rfl) (LentAll.cons (Lent.fact 1 rfl) (LentAll.cons (Lent.fact 2 rfl) .nil))) (fun _ _=>rfl)) rfl fun x10=>J.quiet (Y.lenS rfl (Lent.ar (Lent.res 0 rfl) FI64) rfl) rfl<|J.quiet (Y.move rfl) rfl<|J.done<|J.thenN<|J.block<|J.loopI (A:=Int) (B:=Unit) (snapshot_Legit_s1 p1 r8) (fun a13 b14=>[(1,v3),(20,x10),(21,Value.int .i64 (List.length r8:Int)),(22,Value.int .i64 (a13))]) (fun a13 b14=>[Ar EI64 x10 r8]) (fun a13 b14=>[Sl RI64 v0 p0.1,S2 RI64I64p v1 z2 p0.2,S2 RI64 v3 z4 p1]) (0:Int) (()) h SF (SubM.cons 0 rfl (SubM.nil)) (LentAll.refl _ _) ?_
    clear h
    intro k15 a13 b14 h
    unfold snapshot_Legit_s1 at h
    refine J.seq<|J.region<|J.quiet (Y.lss rfl rfl) rfl<|J.done<|J.thenN<|J.seq ?_
    refine J.condD (by exact rfl) (fun hp16=> ?_) (fun hp16=> ?_)
    ·have h:=ifP hp16 h
     refine J.skip<|J.thenN<|J.seq<|J.block<|J.seq<|J.region<|J.quiet (Y.move rfl) rfl ?_
     have h:=ck_some h;obtain⟨hc17,h⟩:=h
     refine J.quiet (Y.indexS rfl rfl (Lent.ar (Lent.res 0 rfl) FI64) rfl rfl hc17) rfl<|J.quiet (Y.loadS0 rfl (Lent.ar (Lent.res 0 rfl) FI64) rfl rfl rfl RI64c0 hc17) rfl<|J.quiet (Y.assign rfl) rfl<|J.quiet (Y.assign rfl) rfl<|J.done<|J.thenN<|J.seq<|J.region<|J.quiet (Y.move rfl) rfl<|J.quiet (Y.move rfl) rfl ?_
     have h:=ck_some h;obtain⟨hc18,h⟩:=h
     refine J.quiet (Y.indexN rfl rfl (Lent.fact 2 rfl) rfl rfl hc18) rfl<|J.quiet (Y.loadRow rfl (Lent.fact 2 rfl) rfl rfl hc18) rfl ?_
     have h:=ck_some h;obtain⟨hc19,h⟩:=h
     refine J.quiet (Y.indexS rfl rfl (Lent.el (Lent.fact 2 rfl) hc18.1 hc18.2) rfl rfl hc19) rfl<|J.quiet (Y.loadS0 rfl (Lent.el (Lent.fact 2 rfl) hc18.1 hc18.2) rfl rfl rfl RI64c0 hc19) rfl<|J.quiet (Y.move rfl) rfl<|J.quiet (Y.neq rfl rfl) rfl<|J.done<|J.thenN ?_
     refine J.condD (by exact rfl) (fun hp20=> ?_) (fun hp20=> ?_)
     ·have h:=ifP hp20 h
      refine J.seq<|J.region<|J.quiet (Y.assign rfl) rfl<|J.done<|J.thenN<|J.ret<|J.inR<|J.thenR<|J.thenR<|J.inR<|J.thenR ?_
      obtain rfl:=Option.some.inj h
      exact J.retG1 (()) rfl rfl (RV.tmp rfl) (SubM.nil) LentAll.nil
     ·have h:=ifN hp20 h
      refine J.skip<|J.inN<|J.thenN<|J.region<|J.quiet (Y.addW rfl rfl) rfl<|J.quiet (Y.move rfl) rfl<|J.done<|J.thenN ?_
      exact J.againI (wI .i64 (a13+(1:Int))) (()) h SF (SubM.refl _) (LentAll.refl _ _)
    ·have h:=ifN hp16 h
     refine J.exit<|J.thenX<|J.thenX<|J.inX<|J.thenN ?_
     exact J.meetI (()) (()) h SF (SubM.nil) (LentAll.refl _ _)
   ·clear h
    intro a6 b7 h
    unfold snapshot_Legit_k2 at h
    refine J.seq<|J.region<|J.quiet (Y.assign rfl) rfl<|J.done<|J.thenN<|J.ret ?_
    obtain rfl:=Option.some.inj h
    exact J.retG1 (()) rfl rfl (RV.tmp rfl) (SubM.refl _) LentAll.nil
end Go.Proofs.YtfbkplemadmbfaaGreatDoor
end
section
set_option maxRecDepth 100000
namespace Go.Gx
open Go Go.Sx Go.Proofs Go.Proofs.YtfbkplemadmbfaaGreatDoor
noncomputable section
def hk32 (us:List GV) (H:GH):OR:=a1 us fun x0=>ob (dGraph H x0) fun p0=>ob (m_graph_Valid 1000 p0) fun r=>oBool r H
def hk28 (us:List GV) (H:GH):OR:=a2 us fun x0 x1=>ob (dNet H x0) fun p0=>ob (dSc .i64 x1) fun p1=>ob (m__world_Net__Tree 1000 p0 p1) fun r=>oGraph r H
def hk135 (us:List GV) (H:GH):OR:=a4 us fun x0 x1 x2 x3=>ob (dU32s H x0) fun p0=>ob (dSc .i64 x1) fun p1=>ob (dSc .u32 x2) fun p2=>ob (dSc .u32 x3) fun p3=>ob (m__daemon_Net__Permits 1000 p0 p1 p2 p3) fun r=>oBool r H
def hk105 (us:List GV) (H:GH):OR:=a4 us fun x0 x1 x2 x3=>ob (dU32s H x0) fun p0=>ob (dSc .i64 x1) fun p1=>ob (dSc .u32 x2) fun p2=>ob (dSc .u32 x3) fun p3=>ob (m__daemon_Net__Resolve 1000 p0 p1 p2 p3) fun r=>some (.int .u32 r,H)
def hk23 (us:List GV) (H:GH):OR:=a2 us fun x0 x1=>ob (dGraph H x0) fun p0=>ob (dConf H x1) fun p1=>ob (m_snapshot_Legit 1000 p0 p1) fun r=>oBool r H
def gext (f:Nat) (us:List GV) (H:GH):Option (GV×GH):=bif Nat.beq f 32 then hk32 us H else bif Nat.beq f 28 then hk28 us H else bif Nat.beq f 135 then hk135 us H else bif Nat.beq f 105 then hk105 us H else bif Nat.beq f 23 then hk23 us H else none
abbrev gl:Nat->Gls:=glb 0 (cellsOf EU8 tab0)
def gp:GP:=⟨tyTab,95,gext,gexn 208⟩
section
variable {T:Nat} {w0:Base (gl T)} {w:World} {ρ:Rho} {H H':GH} {g:GV} {us:List GV} {vs:List Value}
theorem hk32_ok (h:hk32 us H=some (g,H')) (R:Rel w0 ρ H w) (hr:RlL ρ us vs):CallSem Tryz.prog w0 ρ 32 vs w g H':=by
 obtain⟨x0,rfl,h⟩:=a1_some h
 obtain⟨p0,hp0,h⟩:=ob_some.1 h
 obtain⟨r,hm,h⟩:=ob_some.1 h
 obtain⟨V0,rfl,hv0⟩:=hr.one
 obtain⟨w0a,w0b,z0,rfl,f0a,f0b⟩:=dGraph_ok R hv0 hp0
 obtain⟨rfl,rfl⟩:=oBool_some h
 exact hook_plain body32 (t_graph_Valid 1000 (p0:=p0) w0a w0b z0 r hm) R (List.forall_mem_cons.2 ⟨f0a,List.forall_mem_cons.2 ⟨f0b,fun f hf=>absurd hf List.not_mem_nil⟩⟩) fun ρ=> .bool _
theorem hk28_ok (h:hk28 us H=some (g,H')) (R:Rel w0 ρ H w) (hr:RlL ρ us vs):CallSem Tryz.prog w0 ρ 28 vs w g H':=by
 obtain⟨x0,x1,rfl,h⟩:=a2_some h
 obtain⟨p0,hp0,h⟩:=ob_some.1 h
 obtain⟨p1,hp1,h⟩:=ob_some.1 h
 obtain⟨r,hm,h⟩:=ob_some.1 h
 obtain⟨V0,vs,rfl,hv0,hr⟩:=hr.of_cons
 obtain⟨V1,rfl,hv1⟩:=hr.one
 obtain⟨w0a,w0b,w0c,rfl,f0a,f0b,f0c⟩:=dNet_ok R hv0 hp0
 obtain rfl:=dSc_ok hv1 hp1
 obtain⟨h1,h2,h3,rfl,rfl⟩:=oGraph_some h
 exact hook_graph gI_ok gP_ok h1 h2 h3 body28 (t__world_Net__Tree 1000 (p0:=p0) (p1:=p1) w0a w0b w0c r hm) R (List.forall_mem_cons.2 ⟨f0a,List.forall_mem_cons.2 ⟨f0b,List.forall_mem_cons.2 ⟨f0c,fun f hf=>absurd hf List.not_mem_nil⟩⟩⟩)
theorem hk135_ok (h:hk135 us H=some (g,H')) (R:Rel w0 ρ H w) (hr:RlL ρ us vs):CallSem Tryz.prog w0 ρ 135 vs w g H':=by
 obtain⟨x0,x1,x2,x3,rfl,h⟩:=a4_some h
 obtain⟨p0,hp0,h⟩:=ob_some.1 h
 obtain⟨p1,hp1,h⟩:=ob_some.1 h
 obtain⟨p2,hp2,h⟩:=ob_some.1 h
 obtain⟨p3,hp3,h⟩:=ob_some.1 h
 obtain⟨r,hm,h⟩:=ob_some.1 h
 obtain⟨V0,vs,rfl,hv0,hr⟩:=hr.of_cons
 obtain⟨V1,vs,rfl,hv1,hr⟩:=hr.of_cons
 obtain⟨V2,vs,rfl,hv2,hr⟩:=hr.of_cons
 obtain⟨V3,rfl,hv3⟩:=hr.one
 have f0:=dU32s_ok R hv0 hp0
 obtain rfl:=dSc_ok hv1 hp1
 obtain rfl:=dSc_ok hv2 hp2
 obtain rfl:=dSc_ok hv3 hp3
 obtain⟨rfl,rfl⟩:=oBool_some h
 exact hook_plain body135 (t__daemon_Net__Permits 1000 (p0:=p0) (p1:=p1) (p2:=p2) (p3:=p3) V0 r hm) R (List.forall_mem_cons.2 ⟨f0,List.forall_mem_cons.2 ⟨R.glb,fun f hf=>absurd hf List.not_mem_nil⟩⟩) fun ρ=> .bool _
theorem hk105_ok (h:hk105 us H=some (g,H')) (R:Rel w0 ρ H w) (hr:RlL ρ us vs):CallSem Tryz.prog w0 ρ 105 vs w g H':=by
 obtain⟨x0,x1,x2,x3,rfl,h⟩:=a4_some h
 obtain⟨p0,hp0,h⟩:=ob_some.1 h
 obtain⟨p1,hp1,h⟩:=ob_some.1 h
 obtain⟨p2,hp2,h⟩:=ob_some.1 h
 obtain⟨p3,hp3,h⟩:=ob_some.1 h
 obtain⟨r,hm,h⟩:=ob_some.1 h
 obtain⟨V0,vs,rfl,hv0,hr⟩:=hr.of_cons
 obtain⟨V1,vs,rfl,hv1,hr⟩:=hr.of_cons
 obtain⟨V2,vs,rfl,hv2,hr⟩:=hr.of_cons
 obtain⟨V3,rfl,hv3⟩:=hr.one
 have f0:=dU32s_ok R hv0 hp0
 obtain rfl:=dSc_ok hv1 hp1
 obtain rfl:=dSc_ok hv2 hp2
 obtain rfl:=dSc_ok hv3 hp3
 cases h
 exact hook_plain body105 (t__daemon_Net__Resolve 1000 (p0:=p0) (p1:=p1) (p2:=p2) (p3:=p3) V0 r hm) R (List.forall_mem_cons.2 ⟨f0,List.forall_mem_cons.2 ⟨R.glb,fun f hf=>absurd hf List.not_mem_nil⟩⟩) fun ρ=> .int _ _
theorem hk23_ok (h:hk23 us H=some (g,H')) (R:Rel w0 ρ H w) (hr:RlL ρ us vs):CallSem Tryz.prog w0 ρ 23 vs w g H':=by
 obtain⟨x0,x1,rfl,h⟩:=a2_some h
 obtain⟨p0,hp0,h⟩:=ob_some.1 h
 obtain⟨p1,hp1,h⟩:=ob_some.1 h
 obtain⟨r,hm,h⟩:=ob_some.1 h
 obtain⟨V0,vs,rfl,hv0,hr⟩:=hr.of_cons
 obtain⟨V1,rfl,hv1⟩:=hr.one
 obtain⟨w0a,w0b,z0,rfl,f0a,f0b⟩:=dGraph_ok R hv0 hp0
 obtain⟨z1,f1⟩:=dConf_ok R hv1 hp1
 obtain⟨rfl,rfl⟩:=oBool_some h
 exact hook_plain body23 (t_snapshot_Legit 1000 (p0:=p0) (p1:=p1) w0a w0b z0 V1 z1 r hm) R (List.forall_mem_cons.2 ⟨f0a,List.forall_mem_cons.2 ⟨f0b,List.forall_mem_cons.2 ⟨f1,fun f hf=>absurd hf List.not_mem_nil⟩⟩⟩) fun ρ=> .bool _
theorem gext_ok {f:Nat} (h:gext f us H=some (g,H')) (R:Rel w0 ρ H w) (hr:RlL ρ us vs):CallSem Tryz.prog w0 ρ f vs w g H':=by
 unfold gext at h
 cases e0:Nat.beq f 32 with
 |true=>rw[e0]at h;rw[Nat.eq_of_beq_eq_true e0];exact hk32_ok h R hr
 |false=>
 rw[e0]at h
 cases e1:Nat.beq f 28 with
 |true=>rw[e1]at h;rw[Nat.eq_of_beq_eq_true e1];exact hk28_ok h R hr
 |false=>
 rw[e1]at h
 cases e2:Nat.beq f 135 with
 |true=>rw[e2]at h;rw[Nat.eq_of_beq_eq_true e2];exact hk135_ok h R hr
 |false=>
 rw[e2]at h
 cases e3:Nat.beq f 105 with
 |true=>rw[e3]at h;rw[Nat.eq_of_beq_eq_true e3];exact hk105_ok h R hr
 |false=>
 rw[e3]at h
 cases e4:Nat.beq f 23 with
 |true=>rw[e4]at h;rw[Nat.eq_of_beq_eq_true e4];exact hk23_ok h R hr
 |false=>
 rw[e4]at h
 cases h
end
theorem tabs_ok:TabOk Tryz.prog tyTab:=⟨tyTab_ok⟩
theorem rec_ok {gs:Gls} (w0:Base gs):CallOk Tryz.prog w0 (chOne tyTab 115 Tryz.f115):=chOne_ok tabs_ok mixedOrders Tryz.func115 Tryz.call115 (by kernel_rfl)
theorem def_ok (args:Array Value) (w:World) (hs:args.size=2):CallsDIn (FR none) 0 Tryz.prog 114 args .returning w fun e u' w'=>∃v,e = .returned v∧u' = .returning∧Ext w w':=by
 obtain⟨out,h,he⟩:=okN_spec (r:=evOps tyTab (chOne tyTab 115 Tryz.f115) (bodyOps Tryz.f114) (evC tyTab (chOne tyTab 115 Tryz.f115) (fun _ _ _ _=>none) (bodyRest Tryz.f114) 0 ⟨[],0,[]⟩ (retN [])) (bodyOps Tryz.f114).tail ⟨[(bodyDst Tryz.f114,.inil)],H0⟩) (by kernel_rfl)
 exact caught_ok (ch:=chOne tyTab 115 Tryz.f115) (lp:=fun _ _ _ _=>none) tabs_ok mixedOrders rec_ok loopOk_none Tryz.func114 rfl rfl rfl (by decide +kernel) (fun ρ w=>by simp[execOp,resolve,invoke,builtin]) (by kernel_rfl) (by kernel_rfl) rfl (by rw[hs];decide +kernel) h he
theorem gok {T:Nat} (w0:Base (gl T)):GOk Tryz.prog gp rtab.fns w0:=by
 refine⟨tabs_ok,mixedOrders,fun h=> ?_,fun h ρ w vs R hr=>gext_ok h R hr,fun h ρ w vs H R hr=>gexn_ok Tryz.func208 rfl rfl rfl rfl h ρ w vs H R hr,fun R hc h1 h2=> ?_⟩
 ·obtain⟨e,he,h⟩:=ob_some.1 (show ob (rtabF _) _=some _ from h)
  cases h
  obtain⟨q1,q2,q3⟩:=rtabF_fn he
  exact⟨q1,q2,okF_spec q3⟩
 ·exact cat_ok (tb:=tyTab) (T1:=3) (T2:=42) (cc:=114) tabs_ok Tryz.func95 Tryz.call95 Tryz.call114 rfl rfl rfl (alloc_z (by kernel_rfl)) (alloc_z (by kernel_rfl)) (store_z rfl rfl) (store_z rfl rfl) (load_z rfl rfl) (load_z rfl rfl) def_ok R hc h1 h2
end
end Go.Gx
end
section
namespace Go.Gx
open Go Go.Sx Go.RowKit
mutual
def shV (k:Nat):GV->GV
 | .ptr h o=> .ptr (k+h) o
 | .sl h o l s=> .sl (k+h) o l s
 | .map h=> .map (k+h)
 | .fn f a b=> .fn f (shL k a) (shL k b)
 | .agg cs=> .agg (shL k cs)
 | .tup vs=> .tup (shL k vs)
 | .int a b=> .int a b
 | .bool b=> .bool b
 | .str a b=> .str a b
 | .pnil=> .pnil
 | .snil=> .snil
 | .fnil=> .fnil
 | .inil=> .inil
 | .un=> .un
 | .bad=> .bad
def shL (k:Nat):List GV->List GV
 | []=>[]
 |v::r=>shV k v::shL k r
end
theorem shL_get (k:Nat):∀(l:List GV) (i:Nat),(shL k l)[i]? = (l[i]?).map (shV k)
 | [],i=>rfl
 |v::r,0=>rfl
 |v::r,i+1=>by simpa [shL]using shL_get k r i
theorem shL_len (k:Nat):∀(l:List GV),(shL k l).length=l.length
 | []=>rfl
 |v::r=>by simp[shL,shL_len k r]
def shO (k:Nat):GO->GO
 | .cells cs=> .cells (shL k cs)
 | .mp es=> .mp (es.map fun e=>(shV k e.1,shV k e.2))
def shLoc (k:Nat) (l:Loc):Loc:={l with o:=shO k l.o}
theorem Rl.shift {ρ ρ':Rho} {k:Nat} (hρ:∀h l,ρ h=some l->ρ' (k+h)=some (shLoc k l)) {g:GV} {v:Value} (h:Rl ρ g v):Rl ρ' (shV k g) v:=by
 have lst:∀{us:List GV} {us':List Value},(∀(i:Nat) g v,us[i]? = some g->us'[i]? = some v->Rl ρ' (shV k g) v)->∀(i:Nat) g v,(shL k us)[i]? = some g->us'[i]? = some v->Rl ρ' g v:=by
  intro us us' hh i g v hg hv
  rw[shL_get]at hg
  obtain⟨g0,h0,rfl⟩:=Option.map_eq_some_iff.1 hg
  exact hh i g0 v h0 hv
 induction h with
 |int a n=>simp only[shV];exact .int a n
 |bool b=>simp only[shV];exact .bool b
 |str s=>simp only[shV];exact .str s
 |ptr off h=>simp only[shV];exact .ptr (l:=shLoc k _) off (hρ _ _ h)
 |pnil=>simp only[shV];exact .pnil
 |sl h hc ha=>simp only[shV];exact .sl (l:=shLoc k _) (hρ _ _ h) hc ha
 |snil=>simp only[shV];exact .snil
 |map h=>simp only[shV];exact .map (l:=shLoc k _) (hρ _ _ h)
 |fn f h1 h2 h3 h4 ih2 ih4=>simp only[shV];exact .fn f (by rw[shL_len];exact h1) (lst ih2) (by rw[shL_len];exact h3) (lst ih4)
 |fnil=>simp only[shV];exact .fnil
 |inil=>simp only[shV];exact .inil
 |agg h1 h2 h3 ih=>simp only[shV];exact .agg (by rw[shL_len];exact h1) (lst ih) h3
 |tup h1 h2 ih=>simp only[shV];exact .tup (by rw[shL_len];exact h1) (lst ih)
 |un=>simp only[shV];exact .un
 |bad v=>simp only[shV];exact .bad v

abbrev OL:=List (Nat×Nat×GO)
def lkO:OL->Nat->Option (Nat×GO)
 | [],_=>none
 |x::r,h=>if h=x.1 then some x.2 else lkO r h
theorem lkO_mem {os:OL} {h:Nat} {p:Nat×GO} (hl:lkO os h=some p):(h,p)∈os:=by
 induction os with
 |nil=>cases hl
 |cons x r ih=>
  simp only[lkO]at hl
  split at hl
  ·rename_i e;cases hl;subst e;exact List.mem_cons_self
  ·exact List.mem_cons_of_mem _ (ih hl)
noncomputable def putO (k:Nat) (t:Tr (Nat×GO)):OL->Tr (Nat×GO)
 | []=>t
 |x::r=>(putO k t r).set (some (k+x.2.1,shO k x.2.2)) (k+x.1)
noncomputable def rawO:OL->Tr (Nat×GO)
 | []=> .lf
 |x::r=>(rawO r).set (some x.2) x.1
theorem rawO_get:∀(os:OL) (h:Nat),(rawO os).get h=lkO os h
 | [],h=>rfl
 |x::r,h=>by
  show((rawO r).set (some x.2) x.1).get h=_
  rw[Tr.get_set]
  simp only[lkO]
  split
  ·rfl
  ·exact rawO_get r h
theorem putO_get (k:Nat) (t:Tr (Nat×GO)):∀(os:OL) (h:Nat),(putO k t os).get h=if k<=h then(match lkO os (h - k)with|some p=>some (k+p.1,shO k p.2)|none=>t.get h)else t.get h
 | [],h=>by simp[putO,lkO]
 | x :: r, h => by
  show((putO k t r).set (some (k+x.2.1,shO k x.2.2)) (k+x.1)).get h=_
  rw[Tr.get_set,putO_get k t r h]
  by_cases e:h=k+x.1
  ·subst e
   rw[if_pos rfl,if_pos (by omega)]
   simp[lkO]
  ·rw[if_neg e]
   by_cases hk:k<=h
   ·rw[if_pos hk,if_pos hk]
    simp only[lkO]
    rw[if_neg (show¬h - k=x.1 by omega)]
   ·rw[if_neg hk,if_neg hk]
noncomputable def mkH (n:Nat) (os:OL):GH:=⟨n,rawO os⟩
noncomputable def GH.load (H:GH) (n:Nat) (os:OL):GH:=⟨H.n+n,putO H.n H.t os⟩
section
variable {gs:Gls} {w0:Base gs} {w w':World} {ρ ρ2:Rho} {H:GH} {n:Nat} {os:OL}
theorem GH.get_some {H:GH} {h:Nat} {o:GO}:H.get h=some o↔∃v,H.t.get h=some (v,o):=by
 unfold GH.get
 cases hh:H.t.get h with
 |none=>simp[ob]
 |some p=>obtain⟨a,b⟩:=p;simp[ob]
theorem GH.ver_some {H:GH} {h v:Nat}:H.ver h=some v↔∃o,H.t.get h=some (v,o):=by
 unfold GH.ver
 cases hh:H.t.get h with
 |none=>simp[ob]
 |some p=>obtain⟨a,b⟩:=p;simp[ob]
theorem Rel.sub {H2:GH} (R:Rel w0 ρ H w) (hn:H2.n=H.n) (hs:∀h p,H2.t.get h=some p->H.t.get h=some p):Rel w0 ρ H2 w:=by
 have g:∀h o,H2.get h=some o->H.get h=some o:=fun h o hg=>by
  obtain⟨v,hv⟩:=GH.get_some.1 hg
  exact GH.get_some.2 ⟨v,hs _ _ hv⟩
 refine⟨R.ext,fun h o hg=>R.live h o (g h o hg),fun h h' o o' l l' h1 h2=>R.inj h h' o o' l l' (g _ _ h1) (g _ _ h2),fun h hh=>R.fresh h (by omega),fun h hh=>R.dense h (by omega),fun h v l hv hl=> ?_⟩
 obtain⟨o,ho⟩:=GH.ver_some.1 hv
 obtain⟨lv,a,b,c⟩:=R.vers h v l (GH.ver_some.2 ⟨o,hs _ _ ho⟩) hl
 refine⟨lv,a,b,?_⟩
 have h1:=GH.get_some.2 ⟨v,ho⟩
 have h2:=g _ _ h1
 rw[c]at h2;cases h2;exact h1
theorem ObjOk.shift {l:Loc} {o:GO} {ρ':Rho} {k:Nat} (hρ:∀h l,ρ2 h=some l->ρ' (k+h)=some (shLoc k l)) (h:ObjOk ρ2 w l o):ObjOk ρ' w (shLoc k l) (shO k o):=by
 cases o with
 |cells cs=>
  obtain⟨cur,T,h1,h2,h3,h4⟩:=h
  refine⟨cur,T,h1,h2,by rw[shL_len];exact h3,fun i g hg=> ?_⟩
  rw[shL_get]at hg
  obtain⟨g0,h0,rfl⟩:=Option.map_eq_some_iff.1 hg
  obtain⟨v,a,b,c⟩:=h4 i g0 h0
  exact⟨v,a,b.shift hρ,c⟩
 |mp es=>
  obtain⟨en,cl,h1,h2,h3⟩:=h
  refine⟨en,cl,h1,by simpa [shO]using h2,fun i g hg=> ?_⟩
  rw[List.getElem?_map]at hg
  obtain⟨g0,h0,rfl⟩:=Option.map_eq_some_iff.1 hg
  obtain⟨m,a,b,c⟩:=h3 i g0 h0
  exact⟨m,a,b.shift hρ,c.shift hρ⟩
theorem Rel.join {hb:GlsOk gs w fun _=>False} (R:Rel w0 ρ H w) (R2:Rel (Base.of w hb) ρ2 (mkH n os) w'):
  ∃ρ':Rho,ρ.le ρ'∧Rel w0 ρ' (H.load n os) w'∧∀g v,Rl ρ2 g v->Rl ρ' (shV H.n g) v:=by
 let ρ':Rho:=fun h=>if h<H.n then ρ h else(ρ2 (h - H.n)).map (shLoc H.n)
 have hle:ρ.le ρ':=fun h l hl=>by
  have hlt:h<H.n:=by
   rcases Nat.lt_or_ge h H.n with q|q
   ·exact q
   ·rw[R.fresh h q]at hl;cases hl
  show(if h<H.n then ρ h else _)=_
  rw[if_pos hlt];exact hl
 have hsh:∀h l,ρ2 h=some l->ρ' (H.n+h)=some (shLoc H.n l):=fun h l hl=>by
  show(if H.n+h<H.n then _ else _)=_
  rw[if_neg (by omega),show H.n+h - H.n=h by omega,hl];rfl
 have hlow:∀h,h<H.n->ρ' h=ρ h:=fun h hh=>by show(if h<H.n then ρ h else _)=_;rw[if_pos hh]
 have hhigh:∀h,H.n<=h->ρ' h=(ρ2 (h - H.n)).map (shLoc H.n):=fun h hh=>by show(if h<H.n then ρ h else _)=_;rw[if_neg (by omega)]
 have hnone:∀h,H.n<=h->H.t.get h=none:=fun h hh=>by
  cases hg:H.t.get h with
  |none=>rfl
  |some p=>exact absurd (R.lt (GH.get_some.2 ⟨p.1,hg⟩)) (by omega)
 have gl:∀h,h<H.n->(H.load n os).t.get h=H.t.get h:=fun h hh=>by
  show(putO H.n H.t os).get h=_
  rw[putO_get,if_neg (by omega)]
 have gh:∀h p,H.n<=h->(H.load n os).t.get h=some p->∃p2,(mkH n os).t.get (h - H.n)=some p2∧p=(H.n+p2.1,shO H.n p2.2):=fun h p hh hp=>by
  have hp':(putO H.n H.t os).get h=some p:=hp
  rw[putO_get,if_pos hh,hnone h hh]at hp'
  cases hk:lkO os (h - H.n)with
  |none=>rw[hk]at hp';cases hp'
  |some p2=>rw[hk]at hp';cases hp';exact⟨p2,(rawO_get os _).trans hk,rfl⟩
 have e2:Ext w w':=R2.ext.ext
 have mine2:∀l:Loc,(Base.of w hb).mine l.b->w.heap.size<=l.b:=fun l h=>by
  rcases h with h|h
  ·exact h
  ·exact h.elim
 have liveL:∀h o,h<H.n->(H.load n os).get h=some o->∃l,ρ h=some l∧w0.mine l.b∧ObjOk ρ w l o∧H.get h=some o:=fun h o hh hg=>by
  obtain⟨v,hv⟩:=GH.get_some.1 hg
  rw[gl h hh]at hv
  have hg':=GH.get_some.2 ⟨v,hv⟩
  obtain⟨l,a,b,c⟩:=R.live h o hg'
  exact⟨l,a,b,c,hg'⟩
 have liveH:∀h o,H.n<=h->(H.load n os).get h=some o->∃l o2,ρ2 (h - H.n)=some l∧w.heap.size<=l.b∧ObjOk ρ2 w' l o2∧o=shO H.n o2∧(mkH n os).get (h - H.n)=some o2:=fun h o hh hg=>by
  obtain⟨v,hv⟩:=GH.get_some.1 hg
  obtain⟨p2,h2,e⟩:=gh h _ hh hv
  cases e
  have hg':(mkH n os).get (h - H.n)=some p2.2:=GH.get_some.2 ⟨p2.1,h2⟩
  obtain⟨l,a,b,c⟩:=R2.live _ _ hg'
  exact⟨l,p2.2,a,mine2 l b,c,rfl,hg'⟩
 refine⟨ρ',hle,⟨R.ext.trans e2,fun h o hg=> ?_,fun h h' o o' l l' h1 h2 hl hl' hbb=> ?_,fun h hh=> ?_,fun h hh=> ?_,fun h v l hv hl=> ?_⟩,fun g v hg=>hg.shift hsh⟩
 ·rcases Nat.lt_or_ge h H.n with q|q
  ·obtain⟨l,a,b,c,_⟩:=liveL h o q hg
   exact⟨l,by rw[hlow h q];exact a,b,c.move hle (e2.block _ c.lt)⟩
  ·obtain⟨l,o2,a,b,c,rfl,_⟩:=liveH h o q hg
   exact⟨shLoc H.n l,by rw[hhigh h q,a];rfl,.inl (Nat.le_trans R.ext.size b),c.shift hsh⟩
 ·rcases Nat.lt_or_ge h H.n with q|q<;>rcases Nat.lt_or_ge h' H.n with q'|q'
  ·obtain⟨l1,a1,_,_,g1⟩:=liveL h o q h1
   obtain⟨l2,a2,_,_,g2⟩:=liveL h' o' q' h2
   rw[hlow h q,a1]at hl;rw[hlow h' q',a2]at hl'
   cases hl;cases hl'
   exact R.inj h h' o o' _ _ g1 g2 a1 a2 hbb
  ·obtain⟨l1,a1,_,c1,g1⟩:=liveL h o q h1
   obtain⟨l2,o2,a2,b2,_,rfl,g2⟩:=liveH h' o' q' h2
   rw[hlow h q,a1]at hl;rw[hhigh h' q',a2]at hl'
   cases hl;cases hl'
   have:=c1.lt
   simp only[shLoc]at hbb
   omega
  ·obtain⟨l1,o1,a1,b1,_,rfl,g1⟩:=liveH h o q h1
   obtain⟨l2,a2,_,c2,g2⟩:=liveL h' o' q' h2
   rw[hhigh h q,a1]at hl;rw[hlow h' q',a2]at hl'
   cases hl;cases hl'
   have:=c2.lt
   simp only[shLoc]at hbb
   omega
  ·obtain⟨l1,o1,a1,b1,_,rfl,g1⟩:=liveH h o q h1
   obtain⟨l2,o2,a2,b2,_,rfl,g2⟩:=liveH h' o' q' h2
   rw[hhigh h q,a1]at hl;rw[hhigh h' q',a2]at hl'
   cases hl;cases hl'
   have:=R2.inj _ _ _ _ _ _ g1 g2 a1 a2 hbb
   omega
 ·have hh':H.n+n<=h:=hh
  rw[hhigh h (by omega),R2.fresh (h - H.n) (by show n<=_;omega)];rfl
 ·have hh':h<H.n+n:=hh
  rcases Nat.lt_or_ge h H.n with q|q
  ·obtain⟨l,hl⟩:=R.dense h q
   exact⟨l,by rw[hlow h q];exact hl⟩
  ·obtain⟨l,hl⟩:=R2.dense (h - H.n) (by show _<n;omega)
   exact⟨shLoc H.n l,by rw[hhigh h q,hl];rfl⟩
 ·obtain⟨o,ho⟩:=GH.ver_some.1 hv
  rcases Nat.lt_or_ge h H.n with q|q
  ·rw[gl h q]at ho
   rw[hlow h q]at hl
   obtain⟨lv,a,b,c⟩:=R.vers h v l (GH.ver_some.2 ⟨o,ho⟩) hl
   have hg:=GH.get_some.2 ⟨v,ho⟩
   obtain⟨l',hl',_,ck⟩:=R.live h o hg
   rw[hl]at hl';cases hl'
   refine⟨lv,hle _ _ a,by rw[e2.block _ ck.lt];exact b,?_⟩
   obtain⟨v2,hv2⟩:=GH.get_some.1 c
   exact GH.get_some.2 ⟨v2,by rw[gl h q];exact hv2⟩
  ·obtain⟨p2,h2,e⟩:=gh h _ q ho
   cases e
   rw[hhigh h q]at hl
   obtain⟨l2,hl2,rfl⟩:=Option.map_eq_some_iff.1 hl
   obtain⟨lv,a,b,c⟩:=R2.vers (h - H.n) p2.1 l2 (GH.ver_some.2 ⟨p2.2,h2⟩) hl2
   refine⟨shLoc H.n lv,hsh _ _ a,b,?_⟩
   have h3:(mkH n os).get (h - H.n)=some p2.2:=GH.get_some.2 ⟨p2.1,h2⟩
   rw[c]at h3
   have h4:=Option.some.inj h3
   exact GH.get_some.2 ⟨_,by rw[ho,<-h4];rfl⟩
end

theorem eqS_pair {a b:Nat×Nat} (h:eqS a b=true):a=b:=by
 obtain⟨a1,a2⟩:=a
 obtain⟨b1,b2⟩:=b
 unfold eqS at h
 cases h2:Nat.beq a2 b2 with
 |false=>simp[h2]at h
 |true=>
  simp only[h2,cond_true]at h
  rw[Nat.eq_of_beq_eq_true h,Nat.eq_of_beq_eq_true h2]
theorem rl_str {ρ:Rho} {n l:Nat} {x:ByteArray} (e1:n=encB (bytesOfV x)) (e2:l=(bytesOfV x).length):Rl ρ (.str n l) (.string x):=by
 rw[e1,e2];exact .str x
def isS (us:List GV) (p:Nat×Nat):Bool:=List.casesOn (motive:=fun _=>Bool) us false fun u r=>List.casesOn (motive:=fun _=>Bool) r (Option.casesOn (motive:=fun _=>Bool) (GV.asStr u) false fun s=>eqS s p) fun _ _=>false
theorem isS_eq {us:List GV} {p:Nat×Nat} (h:isS us p=true):us=[.str p.1 p.2]:=by
 cases us with
 |nil=>cases h
 | cons u r =>
  cases r with
  |cons _ _=>cases h
  | nil =>
   cases hu:GV.asStr u with
   |none=>simp[isS,hu]at h
   |some s=>
    have:eqS s p=true:=by simpa [isS,hu]using h
    rw[asStr_eq hu,eqS_pair this]
noncomputable section
def pickO (H:GH) (hs:List Nat):Option OL:=List.rec (motive:=fun _=>Option OL) (some []) (fun h _ ih=>ob (H.t.get h) fun p=>ob ih fun r=>some ((h,p.1,p.2)::r)) hs
theorem pickO_mem {H:GH}:∀{hs:List Nat} {os:OL},pickO H hs=some os->∀x∈os,H.t.get x.1=some x.2
 | [],os,h,x,hx=>by cases h;cases hx
 |h0::hs,os,h,x,hx=>by
  obtain⟨p,hp,h⟩:=ob_some.1 (show ob (H.t.get h0) (fun p=>ob (pickO H hs) fun r=>some ((h0,p.1,p.2)::r))=some os from h)
  obtain⟨r,hr,h⟩:=ob_some.1 h
  cases h
  rcases List.mem_cons.1 hx with rfl|hx
  ·exact hp
  ·exact pickO_mem hr x hx
def memoR (T:Tabs) (G:GP) (fuel f:Nat) (us:List GV) (hs:List Nat):Option (GV×Nat×OL):=ob (callR T G fuel f us H0) fun r=>ob (pickO r.2 hs) fun os=>some (r.1,r.2.n,os)
def shK {R:Type} (k:Nat) (v:GV) (f:GV->R):R:=GV.casesOn (motive_1:=fun _=>R) v (fun a b=>f (.int a b)) (fun b=>f (.bool b)) (fun a b=>f (.str a b)) (fun h o=>sn (Nat.add k h) fun h=>f (.ptr h o)) (f .pnil) (fun h o l s=>sn (Nat.add k h) fun h=>f (.sl h o l s)) (f .snil) (fun h=>sn (Nat.add k h) fun h=>f (.map h)) (fun a b c=>f (shV k (.fn a b c))) (f .fnil) (f .inil) (fun cs=>f (shV k (.agg cs))) (fun vs=>f (shV k (.tup vs))) (f .un) (f .bad)
theorem shK_eq {R:Type} (k:Nat) (v:GV) (f:GV->R):shK k v f=f (shV k v):=by
 cases v<;>simp[shK,sn_eq,shV]
def shLK {R:Type} (k:Nat) (l:List GV):(List GV->R)->R:=List.rec (motive:=fun _=>(List GV->R)->R) (fun f=>f []) (fun x _ ih f=>shK k x fun y=>ih fun r=>f (y::r)) l
theorem shLK_eq {R:Type} (k:Nat):∀(l:List GV) (f:List GV->R),shLK k l f=f (shL k l)
 | [],f=>rfl
 |x::l,f=>by
  show shK k x (fun y=>shLK k l fun r=>f (y::r))=_
  rw[shK_eq,shLK_eq k l];rfl
def shOK {R:Type} (k:Nat) (o:GO) (f:GO->R):R:=GO.casesOn (motive:=fun _=>R) o (fun cs=>shLK k cs fun cs=>f (.cells cs)) (fun es=>f (shO k (.mp es)))
theorem shOK_eq {R:Type} (k:Nat) (o:GO) (f:GO->R):shOK k o f=f (shO k o):=by
 cases o with
 |cells cs=>exact shLK_eq k cs _
 |mp es=>rfl
def putK {R:Type} (k:Nat) (t:Tr (Nat×GO)) (os:OL):(Tr (Nat×GO)->R)->R:=List.rec (motive:=fun _=>(Tr (Nat×GO)->R)->R) (fun f=>f t) (fun x _ ih f=>ih fun t=>sn (Nat.add k x.2.1) fun v=>sn (Nat.add k x.1) fun h=>shOK k x.2.2 fun o=>t.setK (some (v,o)) h f) os
theorem putK_eq {R:Type} (k:Nat) (t:Tr (Nat×GO)):∀(os:OL) (f:Tr (Nat×GO)->R),putK k t os f=f (putO k t os)
 | [],f=>rfl
 |x::os,f=>by
  show putK k t os (fun t=>sn (Nat.add k x.2.1) fun v=>sn (Nat.add k x.1) fun h=>shOK k x.2.2 fun o=>t.setK (some (v,o)) h f)=_
  rw[putK_eq k t os]
  simp only[sn_eq,shOK_eq,Tr.setK_eq];rfl
def memoK (g:GV) (n:Nat) (os:OL) (H:GH):Option (GV×GH):=sn H.n fun k=>shK k g fun g=>putK k H.t os fun t=>sn (Nat.add k n) fun m=>some (g,⟨m,t⟩)
theorem memoK_eq (g:GV) (n:Nat) (os:OL) (H:GH):memoK g n os H=some (shV H.n g,H.load n os):=by
 unfold memoK
 simp only[sn_eq,shK_eq,putK_eq];rfl
theorem memo_ok {P:Program} {T:Tabs} {G:GP} {gs:Gls} (hT:TabsOk T G.tab) (hG:∀w0:Base gs,GOk P G T.fns w0) {fuel f n:Nat} {us:List GV} {vs:List Value} {hs:List Nat} {g:GV} {os:OL} (hm:memoR T G fuel f us hs=some (g,n,os)) (hb:HasBody P f)
  {w0:Base gs} {w:World} {ρ:Rho} {H H':GH} {g':GV} (hv:RlL (fun _=>none) us vs) (h:memoK g n os H=some (g',H')) (R:Rel w0 ρ H w):CallSem P w0 ρ f vs w g' H':=by
 rw[memoK_eq]at h;cases h
 obtain⟨r,hr,hm⟩:=ob_some.1 (show ob (callR T G fuel f us H0) _=some (g,n,os)from hm)
 obtain⟨os',hos,hm⟩:=ob_some.1 hm
 cases hm
 rw[callR_eq hT]at hr
 have hgl:GlsOk gs w fun _=>False:=fun p hp=>⟨(R.glo p hp).1,id⟩
 rcases callF_ok hG (H':=r.2) (g:=r.1) hr (Rel.start (Base.of w hgl)) hv with⟨v,w',ρ',hr',_⟩|⟨_,hc⟩
 ·have:=hb vs.toArray w
  rw[show(Base.of w hgl).w=w from rfl,this]at hr';cases hr'
 ·refine .inr ⟨hb _ w,hc.mono ?_⟩
  rintro e w' ⟨v,ρ2,rfl,_,R2,hr2⟩
  have R3:Rel (Base.of w hgl) ρ2 (mkH r.2.n os) w':=R2.sub rfl fun h p hp=>by
   have:lkO os h=some p:=(rawO_get os h).symm.trans hp
   exact pickO_mem hos _ (lkO_mem this)
  obtain⟨ρ',hle,R4,hsh⟩:=R.join R3
  exact⟨v,ρ',rfl,hle,R4,hsh _ _ hr2⟩
end
end Go.Gx
end
section
set_option maxRecDepth 100000
namespace Go.Gx
open Go Go.Sx Go.Proofs Go.Proofs.YtfbkplemadmbfaaGreatDoor
def mu0:List GV:=[.str 71249362481079977452884316497893485862003781378380186443723211848324143362108177885825419081494821760013661206001097331844441314216469646330948494578433579262219834318486201028918376115292234488190700106942185120577518256511015159373632050200221875266428893346870089151936961848021402711157309556811570579452411680726714441114401627388096496024253845716638330773660915918662884872349758420128557367125203571583786029032399741638474503939646749525176616068912753182428383816770282999284942596549464335299041578590498704846876479973995637544997300808465629673589532931271276867856109758593603349879408733903821463777771303521998656430507938449710980075854559363989016083892713040828720973422783465502057059703922495107079261490020884616910566195303447459199789638099550237825859650229398681345092860498350921460315705906616442288394582691200440280135629162006963382844585911948056220785599387271665395519496413351471157088698250728565328718568235708145832114557345173602352771027404378663854631932098478169816132556163210119982019532849716161103768839540877472227068661770096791273707001174665743715154553128055607401500841088534854391588672059193795601211258321011231050774593156430084765392881009496824427195855467792851940283086600280108372309832209821085536023972216446949998813815478863454932518093775342849783278727011324956570494402720150194198228748565212249332223202955995657936385103356277284401707377096495385107540722377361240699143073602638306000298122043359982192 613]
def mg0:GV:=(.tup [(.sl 2345 0 275 4),(.int .i64 (.ofNat 0)),(.int .i64 (.ofNat 0))])
def mo0:OL:=[(2345,2345,.cells [(.int .i64 (.ofNat 1)),(.int .i64 (.ofNat 0)),(.int .i64 (.ofNat 7)),(.int .i64 (.ofNat 0)),(.int .i64 (.ofNat 1)),(.int .i64 (.ofNat 8)),(.int .i64 (.ofNat 16)),(.int .i64 (.ofNat 0)),(.int .i64 (.ofNat 3)),(.int .i64 (.ofNat 16)),(.int .i64 (.ofNat 17)),(.int .i64 (.ofNat 0)),(.int .i64 (.ofNat 1)),(.int .i64 (.ofNat 18)),(.int .i64 (.ofNat 21)),(.int .i64 (.ofNat 0)),(.int .i64 (.ofNat 1)),(.int .i64 (.ofNat 22)),(.int .i64 (.ofNat 23)),(.int .i64 (.ofNat 0)),(.int .i64 (.ofNat 3)),(.int .i64 (.ofNat 24)),(.int .i64 (.ofNat 25)),(.int .i64 (.ofNat 0)),(.int .i64 (.ofNat 2)),(.int .i64 (.ofNat 26)),(.int .i64 (.ofNat 27)),(.int .i64 (.ofNat 0)),(.int .i64 (.ofNat 3)),(.int .i64 (.ofNat 28)),(.int .i64 (.ofNat 30)),(.int .i64 (.ofNat 0)),(.int .i64 (.ofNat 1)),(.int .i64 (.ofNat 31)),(.int .i64 (.ofNat 32)),(.int .i64 (.ofNat 0)),(.int .i64 (.ofNat 3)),(.int .i64 (.ofNat 32)),(.int .i64 (.ofNat 33)),(.int .i64 (.ofNat 0)),(.int .i64 (.ofNat 1)),(.int .i64 (.ofNat 34)),(.int .i64 (.ofNat 37)),(.int .i64 (.ofNat 0)),(.int .i64 (.ofNat 1)),(.int .i64 (.ofNat 38)),(.int .i64 (.ofNat 39)),(.int .i64 (.ofNat 0)),(.int .i64 (.ofNat 3)),(.int .i64 (.ofNat 40)),(.int .i64 (.ofNat 41)),(.int .i64 (.ofNat 0)),(.int .i64 (.ofNat 1)),(.int .i64 (.ofNat 42)),(.int .i64 (.ofNat 46)),(.int .i64 (.ofNat 0)),(.int .i64 (.ofNat 3)),(.int .i64 (.ofNat 46)),(.int .i64 (.ofNat 47)),(.int .i64 (.ofNat 0)),(.int .i64 (.ofNat 1)),(.int .i64 (.ofNat 48)),(.int .i64 (.ofNat 51)),(.int .i64 (.ofNat 0)),(.int .i64 (.ofNat 1)),(.int .i64 (.ofNat 52)),(.int .i64 (.ofNat 53)),(.int .i64 (.ofNat 0)),(.int .i64 (.ofNat 3)),(.int .i64 (.ofNat 54)),(.int .i64 (.ofNat 55)),(.int .i64 (.ofNat 0)),(.int .i64 (.ofNat 1)),(.int .i64 (.ofNat 56)),(.int .i64 (.ofNat 60)),(.int .i64 (.ofNat 0)),(.int .i64 (.ofNat 3)),(.int .i64 (.ofNat 60)),(.int .i64 (.ofNat 61)),(.int .i64 (.ofNat 0)),(.int .i64 (.ofNat 1)),(.int .i64 (.ofNat 62)),(.int .i64 (.ofNat 65)),(.int .i64 (.ofNat 0)),(.int .i64 (.ofNat 1)),(.int .i64 (.ofNat 66)),(.int .i64 (.ofNat 67)),(.int .i64 (.ofNat 0)),(.int .i64 (.ofNat 3)),(.int .i64 (.ofNat 68)),(.int .i64 (.ofNat 69)),(.int .i64 (.ofNat 0)),(.int .i64 (.ofNat 1)),(.int .i64 (.ofNat 70)),(.int .i64 (.ofNat 74)),(.int .i64 (.ofNat 0)),(.int .i64 (.ofNat 3)),(.int .i64 (.ofNat 74)),(.int .i64 (.ofNat 75)),(.int .i64 (.ofNat 0)),(.int .i64 (.ofNat 1)),(.int .i64 (.ofNat 76)),(.int .i64 (.ofNat 79)),(.int .i64 (.ofNat 0)),(.int .i64 (.ofNat 1)),(.int .i64 (.ofNat 80)),(.int .i64 (.ofNat 81)),(.int .i64 (.ofNat 0)),(.int .i64 (.ofNat 3)),(.int .i64 (.ofNat 82)),(.int .i64 (.ofNat 83)),(.int .i64 (.ofNat 0)),(.int .i64 (.ofNat 2)),(.int .i64 (.ofNat 84)),(.int .i64 (.ofNat 85)),(.int .i64 (.ofNat 0)),(.int .i64 (.ofNat 3)),(.int .i64 (.ofNat 86)),(.int .i64 (.ofNat 88)),(.int .i64 (.ofNat 0)),(.int .i64 (.ofNat 2)),(.int .i64 (.ofNat 89)),(.int .i64 (.ofNat 91)),(.int .i64 (.ofNat 15)),(.int .i64 (.ofNat 3)),(.int .i64 (.ofNat 91)),(.int .i64 (.ofNat 92)),(.int .i64 (.ofNat 0)),(.int .i64 (.ofNat 1)),(.int .i64 (.ofNat 93)),(.int .i64 (.ofNat 96)),(.int .i64 (.ofNat 0)),(.int .i64 (.ofNat 1)),(.int .i64 (.ofNat 97)),(.int .i64 (.ofNat 98)),(.int .i64 (.ofNat 0)),(.int .i64 (.ofNat 3)),(.int .i64 (.ofNat 99)),(.int .i64 (.ofNat 100)),(.int .i64 (.ofNat 0)),(.int .i64 (.ofNat 2)),(.int .i64 (.ofNat 101)),(.int .i64 (.ofNat 102)),(.int .i64 (.ofNat 0)),(.int .i64 (.ofNat 3)),(.int .i64 (.ofNat 103)),(.int .i64 (.ofNat 105)),(.int .i64 (.ofNat 0)),(.int .i64 (.ofNat 2)),(.int .i64 (.ofNat 106)),(.int .i64 (.ofNat 108)),(.int .i64 (.ofNat 15)),(.int .i64 (.ofNat 3)),(.int .i64 (.ofNat 109)),(.int .i64 (.ofNat 110)),(.int .i64 (.ofNat 0)),(.int .i64 (.ofNat 1)),(.int .i64 (.ofNat 111)),(.int .i64 (.ofNat 112)),(.int .i64 (.ofNat 0)),(.int .i64 (.ofNat 3)),(.int .i64 (.ofNat 112)),(.int .i64 (.ofNat 113)),(.int .i64 (.ofNat 0)),(.int .i64 (.ofNat 1)),(.int .i64 (.ofNat 114)),(.int .i64 (.ofNat 118)),(.int .i64 (.ofNat 0)),(.int .i64 (.ofNat 1)),(.int .i64 (.ofNat 119)),(.int .i64 (.ofNat 122)),(.int .i64 (.ofNat 0)),(.int .i64 (.ofNat 3)),(.int .i64 (.ofNat 122)),(.int .i64 (.ofNat 123)),(.int .i64 (.ofNat 0)),(.int .i64 (.ofNat 1)),(.int .i64 (.ofNat 124)),(.int .i64 (.ofNat 128)),(.int .i64 (.ofNat 0)),(.int .i64 (.ofNat 3)),(.int .i64 (.ofNat 129)),(.int .i64 (.ofNat 131)),(.int .i64 (.ofNat 0)),(.int .i64 (.ofNat 3)),(.int .i64 (.ofNat 132)),(.int .i64 (.ofNat 133)),(.int .i64 (.ofNat 0)),(.int .i64 (.ofNat 1)),(.int .i64 (.ofNat 133)),(.int .i64 (.ofNat 134)),(.int .i64 (.ofNat 0)),(.int .i64 (.ofNat 3)),(.int .i64 (.ofNat 135)),(.int .i64 (.ofNat 137)),(.int .i64 (.ofNat 0)),(.int .i64 (.ofNat 2)),(.int .i64 (.ofNat 138)),(.int .i64 (.ofNat 139)),(.int .i64 (.ofNat 0)),(.int .i64 (.ofNat 3)),(.int .i64 (.ofNat 140)),(.int .i64 (.ofNat 142)),(.int .i64 (.ofNat 0)),(.int .i64 (.ofNat 1)),(.int .i64 (.ofNat 143)),(.int .i64 (.ofNat 144)),(.int .i64 (.ofNat 0)),(.int .i64 (.ofNat 3)),(.int .i64 (.ofNat 145)),(.int .i64 (.ofNat 147)),(.int .i64 (.ofNat 0)),(.int .i64 (.ofNat 1)),(.int .i64 (.ofNat 148)),(.int .i64 (.ofNat 152)),(.int .i64 (.ofNat 0)),(.int .i64 (.ofNat 3)),(.int .i64 (.ofNat 152)),(.int .i64 (.ofNat 153)),(.int .i64 (.ofNat 0)),(.int .i64 (.ofNat 3)),(.int .i64 (.ofNat 154)),(.int .i64 (.ofNat 156)),(.int .i64 (.ofNat 0)),(.int .i64 (.ofNat 1)),(.int .i64 (.ofNat 157)),(.int .i64 (.ofNat 158)),(.int .i64 (.ofNat 0)),(.int .i64 (.ofNat 3)),(.int .i64 (.ofNat 159)),(.int .i64 (.ofNat 161)),(.int .i64 (.ofNat 0)),(.int .i64 (.ofNat 2)),(.int .i64 (.ofNat 162)),(.int .i64 (.ofNat 163)),(.int .i64 (.ofNat 0)),(.int .i64 (.ofNat 3)),(.int .i64 (.ofNat 163)),(.int .i64 (.ofNat 164)),(.int .i64 (.ofNat 0)),(.int .i64 (.ofNat 1)),(.int .i64 (.ofNat 165)),(.int .i64 (.ofNat 166)),(.int .i64 (.ofNat 0)),(.int .i64 (.ofNat 3)),(.int .i64 (.ofNat 167)),(.int .i64 (.ofNat 169)),(.int .i64 (.ofNat 0)),(.int .i64 (.ofNat 1)),(.int .i64 (.ofNat 170)),(.int .i64 (.ofNat 174)),(.int .i64 (.ofNat 0)),(.int .i64 (.ofNat 3)),(.int .i64 (.ofNat 174)),(.int .i64 (.ofNat 175)),(.int .i64 (.ofNat 0)),(.int .i64 (.ofNat 1)),(.int .i64 (.ofNat 176)),(.int .i64 (.ofNat 180)),(.int .i64 (.ofNat 0)),(.int .i64 (.ofNat 1)),(.int .i64 (.ofNat 181)),(.int .i64 (.ofNat 184)),(.int .i64 (.ofNat 0)),(.int .i64 (.ofNat 3)),(.int .i64 (.ofNat 184)),(.int .i64 (.ofNat 185)),(.int .i64 (.ofNat 0)),(.int .i64 (.ofNat 3)),(.int .i64 (.ofNat 186)),(.int .i64 (.ofNat 187)),(.int .i64 (.ofNat 0)),(.int .i64 (.ofNat 1)),(.int .i64 (.ofNat 187)),(.int .i64 (.ofNat 191)),(.int .i64 (.ofNat 0)),(.int .i64 (.ofNat 3)),(.int .i64 (.ofNat 192)),(.int .i64 (.ofNat 194)),(.int .i64 (.ofNat 0)),(.int .i64 (.ofNat 3)),(.int .i64 (.ofNat 195)),(.int .i64 (.ofNat 196)),(.int .i64 (.ofNat 0)),(.int .i64 (.ofNat 1)),(.int .i64 (.ofNat 196)),(.int .i64 (.ofNat 197)),(.int .i64 (.ofNat 0)),(.int .i64 (.ofNat 3)),(.int .i64 (.ofNat 198)),(.int .i64 (.ofNat 200)),(.int .i64 (.ofNat 0)),(.int .i64 (.ofNat 3)),(.int .i64 (.ofNat 201)),(.int .i64 (.ofNat 202)),(.int .i64 (.ofNat 0)),(.int .i64 (.ofNat 1)),(.int .i64 (.ofNat 202)),(.int .i64 (.ofNat 205)),(.int .i64 (.ofNat 0)),(.int .i64 (.ofNat 3)),(.int .i64 (.ofNat 205)),(.int .i64 (.ofNat 206)),(.int .i64 (.ofNat 0)),(.int .i64 (.ofNat 1)),(.int .i64 (.ofNat 206)),(.int .i64 (.ofNat 207)),(.int .i64 (.ofNat 0)),(.int .i64 (.ofNat 3)),(.int .i64 (.ofNat 207)),(.int .i64 (.ofNat 208)),(.int .i64 (.ofNat 0)),(.int .i64 (.ofNat 1)),(.int .i64 (.ofNat 208)),(.int .i64 (.ofNat 209)),(.int .i64 (.ofNat 0)),(.int .i64 (.ofNat 3)),(.int .i64 (.ofNat 209)),(.int .i64 (.ofNat 210)),(.int .i64 (.ofNat 0)),(.int .i64 (.ofNat 3)),(.int .i64 (.ofNat 211)),(.int .i64 (.ofNat 212)),(.int .i64 (.ofNat 0)),(.int .i64 (.ofNat 1)),(.int .i64 (.ofNat 213)),(.int .i64 (.ofNat 214)),(.int .i64 (.ofNat 0)),(.int .i64 (.ofNat 3)),(.int .i64 (.ofNat 215)),(.int .i64 (.ofNat 216)),(.int .i64 (.ofNat 0)),(.int .i64 (.ofNat 1)),(.int .i64 (.ofNat 217)),(.int .i64 (.ofNat 220)),(.int .i64 (.ofNat 0)),(.int .i64 (.ofNat 3)),(.int .i64 (.ofNat 220)),(.int .i64 (.ofNat 221)),(.int .i64 (.ofNat 0)),(.int .i64 (.ofNat 1)),(.int .i64 (.ofNat 221)),(.int .i64 (.ofNat 222)),(.int .i64 (.ofNat 0)),(.int .i64 (.ofNat 3)),(.int .i64 (.ofNat 222)),(.int .i64 (.ofNat 223)),(.int .i64 (.ofNat 0)),(.int .i64 (.ofNat 1)),(.int .i64 (.ofNat 223)),(.int .i64 (.ofNat 224)),(.int .i64 (.ofNat 0)),(.int .i64 (.ofNat 3)),(.int .i64 (.ofNat 224)),(.int .i64 (.ofNat 225)),(.int .i64 (.ofNat 0)),(.int .i64 (.ofNat 3)),(.int .i64 (.ofNat 226)),(.int .i64 (.ofNat 227)),(.int .i64 (.ofNat 0)),(.int .i64 (.ofNat 2)),(.int .i64 (.ofNat 228)),(.int .i64 (.ofNat 229)),(.int .i64 (.ofNat 1)),(.int .i64 (.ofNat 3)),(.int .i64 (.ofNat 230)),(.int .i64 (.ofNat 231)),(.int .i64 (.ofNat 0)),(.int .i64 (.ofNat 1)),(.int .i64 (.ofNat 232)),(.int .i64 (.ofNat 233)),(.int .i64 (.ofNat 0)),(.int .i64 (.ofNat 3)),(.int .i64 (.ofNat 233)),(.int .i64 (.ofNat 234)),(.int .i64 (.ofNat 0)),(.int .i64 (.ofNat 3)),(.int .i64 (.ofNat 235)),(.int .i64 (.ofNat 237)),(.int .i64 (.ofNat 0)),(.int .i64 (.ofNat 1)),(.int .i64 (.ofNat 238)),(.int .i64 (.ofNat 239)),(.int .i64 (.ofNat 0)),(.int .i64 (.ofNat 3)),(.int .i64 (.ofNat 240)),(.int .i64 (.ofNat 242)),(.int .i64 (.ofNat 0)),(.int .i64 (.ofNat 1)),(.int .i64 (.ofNat 243)),(.int .i64 (.ofNat 248)),(.int .i64 (.ofNat 0)),(.int .i64 (.ofNat 3)),(.int .i64 (.ofNat 248)),(.int .i64 (.ofNat 249)),(.int .i64 (.ofNat 0)),(.int .i64 (.ofNat 1)),(.int .i64 (.ofNat 249)),(.int .i64 (.ofNat 250)),(.int .i64 (.ofNat 0)),(.int .i64 (.ofNat 3)),(.int .i64 (.ofNat 250)),(.int .i64 (.ofNat 251)),(.int .i64 (.ofNat 0)),(.int .i64 (.ofNat 1)),(.int .i64 (.ofNat 251)),(.int .i64 (.ofNat 252)),(.int .i64 (.ofNat 0)),(.int .i64 (.ofNat 3)),(.int .i64 (.ofNat 253)),(.int .i64 (.ofNat 255)),(.int .i64 (.ofNat 0)),(.int .i64 (.ofNat 1)),(.int .i64 (.ofNat 256)),(.int .i64 (.ofNat 259)),(.int .i64 (.ofNat 0)),(.int .i64 (.ofNat 3)),(.int .i64 (.ofNat 259)),(.int .i64 (.ofNat 260)),(.int .i64 (.ofNat 0)),(.int .i64 (.ofNat 1)),(.int .i64 (.ofNat 260)),(.int .i64 (.ofNat 261)),(.int .i64 (.ofNat 0)),(.int .i64 (.ofNat 3)),(.int .i64 (.ofNat 261)),(.int .i64 (.ofNat 262)),(.int .i64 (.ofNat 0)),(.int .i64 (.ofNat 1)),(.int .i64 (.ofNat 262)),(.int .i64 (.ofNat 263)),(.int .i64 (.ofNat 0)),(.int .i64 (.ofNat 3)),(.int .i64 (.ofNat 263)),(.int .i64 (.ofNat 264)),(.int .i64 (.ofNat 0)),(.int .i64 (.ofNat 3)),(.int .i64 (.ofNat 264)),(.int .i64 (.ofNat 265)),(.int .i64 (.ofNat 0)),(.int .i64 (.ofNat 3)),(.int .i64 (.ofNat 265)),(.int .i64 (.ofNat 266)),(.int .i64 (.ofNat 0)),(.int .i64 (.ofNat 3)),(.int .i64 (.ofNat 269)),(.int .i64 (.ofNat 271)),(.int .i64 (.ofNat 0)),(.int .i64 (.ofNat 1)),(.int .i64 (.ofNat 272)),(.int .i64 (.ofNat 273)),(.int .i64 (.ofNat 0)),(.int .i64 (.ofNat 3)),(.int .i64 (.ofNat 274)),(.int .i64 (.ofNat 276)),(.int .i64 (.ofNat 0)),(.int .i64 (.ofNat 3)),(.int .i64 (.ofNat 277)),(.int .i64 (.ofNat 278)),(.int .i64 (.ofNat 0)),(.int .i64 (.ofNat 1)),(.int .i64 (.ofNat 278)),(.int .i64 (.ofNat 281)),(.int .i64 (.ofNat 0)),(.int .i64 (.ofNat 3)),(.int .i64 (.ofNat 281)),(.int .i64 (.ofNat 282)),(.int .i64 (.ofNat 0)),(.int .i64 (.ofNat 1)),(.int .i64 (.ofNat 282)),(.int .i64 (.ofNat 283)),(.int .i64 (.ofNat 0)),(.int .i64 (.ofNat 3)),(.int .i64 (.ofNat 283)),(.int .i64 (.ofNat 284)),(.int .i64 (.ofNat 0)),(.int .i64 (.ofNat 1)),(.int .i64 (.ofNat 284)),(.int .i64 (.ofNat 285)),(.int .i64 (.ofNat 0)),(.int .i64 (.ofNat 3)),(.int .i64 (.ofNat 285)),(.int .i64 (.ofNat 286)),(.int .i64 (.ofNat 0)),(.int .i64 (.ofNat 3)),(.int .i64 (.ofNat 287)),(.int .i64 (.ofNat 288)),(.int .i64 (.ofNat 0)),(.int .i64 (.ofNat 1)),(.int .i64 (.ofNat 289)),(.int .i64 (.ofNat 290)),(.int .i64 (.ofNat 0)),(.int .i64 (.ofNat 3)),(.int .i64 (.ofNat 291)),(.int .i64 (.ofNat 292)),(.int .i64 (.ofNat 0)),(.int .i64 (.ofNat 1)),(.int .i64 (.ofNat 293)),(.int .i64 (.ofNat 296)),(.int .i64 (.ofNat 0)),(.int .i64 (.ofNat 3)),(.int .i64 (.ofNat 296)),(.int .i64 (.ofNat 297)),(.int .i64 (.ofNat 0)),(.int .i64 (.ofNat 1)),(.int .i64 (.ofNat 297)),(.int .i64 (.ofNat 298)),(.int .i64 (.ofNat 0)),(.int .i64 (.ofNat 3)),(.int .i64 (.ofNat 298)),(.int .i64 (.ofNat 299)),(.int .i64 (.ofNat 0)),(.int .i64 (.ofNat 1)),(.int .i64 (.ofNat 299)),(.int .i64 (.ofNat 300)),(.int .i64 (.ofNat 0)),(.int .i64 (.ofNat 3)),(.int .i64 (.ofNat 300)),(.int .i64 (.ofNat 301)),(.int .i64 (.ofNat 0)),(.int .i64 (.ofNat 3)),(.int .i64 (.ofNat 302)),(.int .i64 (.ofNat 303)),(.int .i64 (.ofNat 0)),(.int .i64 (.ofNat 2)),(.int .i64 (.ofNat 304)),(.int .i64 (.ofNat 305)),(.int .i64 (.ofNat 1)),(.int .i64 (.ofNat 3)),(.int .i64 (.ofNat 306)),(.int .i64 (.ofNat 307)),(.int .i64 (.ofNat 0)),(.int .i64 (.ofNat 1)),(.int .i64 (.ofNat 308)),(.int .i64 (.ofNat 309)),(.int .i64 (.ofNat 0)),(.int .i64 (.ofNat 3)),(.int .i64 (.ofNat 309)),(.int .i64 (.ofNat 310)),(.int .i64 (.ofNat 0)),(.int .i64 (.ofNat 3)),(.int .i64 (.ofNat 310)),(.int .i64 (.ofNat 311)),(.int .i64 (.ofNat 0)),(.int .i64 (.ofNat 1)),(.int .i64 (.ofNat 312)),(.int .i64 (.ofNat 313)),(.int .i64 (.ofNat 0)),(.int .i64 (.ofNat 3)),(.int .i64 (.ofNat 314)),(.int .i64 (.ofNat 316)),(.int .i64 (.ofNat 0)),(.int .i64 (.ofNat 1)),(.int .i64 (.ofNat 317)),(.int .i64 (.ofNat 322)),(.int .i64 (.ofNat 0)),(.int .i64 (.ofNat 3)),(.int .i64 (.ofNat 322)),(.int .i64 (.ofNat 323)),(.int .i64 (.ofNat 0)),(.int .i64 (.ofNat 1)),(.int .i64 (.ofNat 323)),(.int .i64 (.ofNat 324)),(.int .i64 (.ofNat 0)),(.int .i64 (.ofNat 3)),(.int .i64 (.ofNat 324)),(.int .i64 (.ofNat 325)),(.int .i64 (.ofNat 0)),(.int .i64 (.ofNat 1)),(.int .i64 (.ofNat 325)),(.int .i64 (.ofNat 326)),(.int .i64 (.ofNat 0)),(.int .i64 (.ofNat 3)),(.int .i64 (.ofNat 327)),(.int .i64 (.ofNat 329)),(.int .i64 (.ofNat 0)),(.int .i64 (.ofNat 1)),(.int .i64 (.ofNat 330)),(.int .i64 (.ofNat 333)),(.int .i64 (.ofNat 0)),(.int .i64 (.ofNat 3)),(.int .i64 (.ofNat 333)),(.int .i64 (.ofNat 334)),(.int .i64 (.ofNat 0)),(.int .i64 (.ofNat 1)),(.int .i64 (.ofNat 334)),(.int .i64 (.ofNat 335)),(.int .i64 (.ofNat 0)),(.int .i64 (.ofNat 3)),(.int .i64 (.ofNat 335)),(.int .i64 (.ofNat 336)),(.int .i64 (.ofNat 0)),(.int .i64 (.ofNat 1)),(.int .i64 (.ofNat 336)),(.int .i64 (.ofNat 337)),(.int .i64 (.ofNat 0)),(.int .i64 (.ofNat 3)),(.int .i64 (.ofNat 337)),(.int .i64 (.ofNat 338)),(.int .i64 (.ofNat 0)),(.int .i64 (.ofNat 3)),(.int .i64 (.ofNat 338)),(.int .i64 (.ofNat 339)),(.int .i64 (.ofNat 0)),(.int .i64 (.ofNat 3)),(.int .i64 (.ofNat 339)),(.int .i64 (.ofNat 340)),(.int .i64 (.ofNat 0)),(.int .i64 (.ofNat 1)),(.int .i64 (.ofNat 341)),(.int .i64 (.ofNat 345)),(.int .i64 (.ofNat 0)),(.int .i64 (.ofNat 1)),(.int .i64 (.ofNat 346)),(.int .i64 (.ofNat 351)),(.int .i64 (.ofNat 0)),(.int .i64 (.ofNat 3)),(.int .i64 (.ofNat 351)),(.int .i64 (.ofNat 352)),(.int .i64 (.ofNat 0)),(.int .i64 (.ofNat 1)),(.int .i64 (.ofNat 353)),(.int .i64 (.ofNat 357)),(.int .i64 (.ofNat 0)),(.int .i64 (.ofNat 3)),(.int .i64 (.ofNat 358)),(.int .i64 (.ofNat 360)),(.int .i64 (.ofNat 0)),(.int .i64 (.ofNat 3)),(.int .i64 (.ofNat 361)),(.int .i64 (.ofNat 362)),(.int .i64 (.ofNat 0)),(.int .i64 (.ofNat 1)),(.int .i64 (.ofNat 362)),(.int .i64 (.ofNat 363)),(.int .i64 (.ofNat 0)),(.int .i64 (.ofNat 3)),(.int .i64 (.ofNat 364)),(.int .i64 (.ofNat 366)),(.int .i64 (.ofNat 0)),(.int .i64 (.ofNat 1)),(.int .i64 (.ofNat 367)),(.int .i64 (.ofNat 368)),(.int .i64 (.ofNat 0)),(.int .i64 (.ofNat 3)),(.int .i64 (.ofNat 369)),(.int .i64 (.ofNat 371)),(.int .i64 (.ofNat 0)),(.int .i64 (.ofNat 1)),(.int .i64 (.ofNat 372)),(.int .i64 (.ofNat 376)),(.int .i64 (.ofNat 0)),(.int .i64 (.ofNat 3)),(.int .i64 (.ofNat 376)),(.int .i64 (.ofNat 377)),(.int .i64 (.ofNat 0)),(.int .i64 (.ofNat 1)),(.int .i64 (.ofNat 378)),(.int .i64 (.ofNat 379)),(.int .i64 (.ofNat 0)),(.int .i64 (.ofNat 3)),(.int .i64 (.ofNat 380)),(.int .i64 (.ofNat 382)),(.int .i64 (.ofNat 0)),(.int .i64 (.ofNat 3)),(.int .i64 (.ofNat 383)),(.int .i64 (.ofNat 384)),(.int .i64 (.ofNat 0)),(.int .i64 (.ofNat 1)),(.int .i64 (.ofNat 384)),(.int .i64 (.ofNat 385)),(.int .i64 (.ofNat 0)),(.int .i64 (.ofNat 3)),(.int .i64 (.ofNat 385)),(.int .i64 (.ofNat 386)),(.int .i64 (.ofNat 0)),(.int .i64 (.ofNat 1)),(.int .i64 (.ofNat 387)),(.int .i64 (.ofNat 391)),(.int .i64 (.ofNat 0)),(.int .i64 (.ofNat 1)),(.int .i64 (.ofNat 392)),(.int .i64 (.ofNat 396)),(.int .i64 (.ofNat 0)),(.int .i64 (.ofNat 3)),(.int .i64 (.ofNat 396)),(.int .i64 (.ofNat 397)),(.int .i64 (.ofNat 0)),(.int .i64 (.ofNat 3)),(.int .i64 (.ofNat 398)),(.int .i64 (.ofNat 399)),(.int .i64 (.ofNat 0)),(.int .i64 (.ofNat 1)),(.int .i64 (.ofNat 399)),(.int .i64 (.ofNat 403)),(.int .i64 (.ofNat 0)),(.int .i64 (.ofNat 3)),(.int .i64 (.ofNat 404)),(.int .i64 (.ofNat 406)),(.int .i64 (.ofNat 0)),(.int .i64 (.ofNat 1)),(.int .i64 (.ofNat 407)),(.int .i64 (.ofNat 411)),(.int .i64 (.ofNat 0)),(.int .i64 (.ofNat 3)),(.int .i64 (.ofNat 411)),(.int .i64 (.ofNat 412)),(.int .i64 (.ofNat 0)),(.int .i64 (.ofNat 1)),(.int .i64 (.ofNat 412)),(.int .i64 (.ofNat 413)),(.int .i64 (.ofNat 0)),(.int .i64 (.ofNat 3)),(.int .i64 (.ofNat 414)),(.int .i64 (.ofNat 416)),(.int .i64 (.ofNat 0)),(.int .i64 (.ofNat 1)),(.int .i64 (.ofNat 417)),(.int .i64 (.ofNat 418)),(.int .i64 (.ofNat 0)),(.int .i64 (.ofNat 3)),(.int .i64 (.ofNat 419)),(.int .i64 (.ofNat 421)),(.int .i64 (.ofNat 0)),(.int .i64 (.ofNat 3)),(.int .i64 (.ofNat 422)),(.int .i64 (.ofNat 423)),(.int .i64 (.ofNat 0)),(.int .i64 (.ofNat 1)),(.int .i64 (.ofNat 423)),(.int .i64 (.ofNat 424)),(.int .i64 (.ofNat 0)),(.int .i64 (.ofNat 3)),(.int .i64 (.ofNat 424)),(.int .i64 (.ofNat 425)),(.int .i64 (.ofNat 0)),(.int .i64 (.ofNat 1)),(.int .i64 (.ofNat 425)),(.int .i64 (.ofNat 426)),(.int .i64 (.ofNat 0)),(.int .i64 (.ofNat 3)),(.int .i64 (.ofNat 427)),(.int .i64 (.ofNat 429)),(.int .i64 (.ofNat 0)),(.int .i64 (.ofNat 1)),(.int .i64 (.ofNat 430)),(.int .i64 (.ofNat 431)),(.int .i64 (.ofNat 0)),(.int .i64 (.ofNat 3)),(.int .i64 (.ofNat 432)),(.int .i64 (.ofNat 434)),(.int .i64 (.ofNat 0)),(.int .i64 (.ofNat 1)),(.int .i64 (.ofNat 435)),(.int .i64 (.ofNat 436)),(.int .i64 (.ofNat 0)),(.int .i64 (.ofNat 3)),(.int .i64 (.ofNat 437)),(.int .i64 (.ofNat 439)),(.int .i64 (.ofNat 0)),(.int .i64 (.ofNat 3)),(.int .i64 (.ofNat 440)),(.int .i64 (.ofNat 441)),(.int .i64 (.ofNat 0)),(.int .i64 (.ofNat 1)),(.int .i64 (.ofNat 441)),(.int .i64 (.ofNat 442)),(.int .i64 (.ofNat 0)),(.int .i64 (.ofNat 3)),(.int .i64 (.ofNat 442)),(.int .i64 (.ofNat 443)),(.int .i64 (.ofNat 0)),(.int .i64 (.ofNat 1)),(.int .i64 (.ofNat 443)),(.int .i64 (.ofNat 444)),(.int .i64 (.ofNat 0)),(.int .i64 (.ofNat 3)),(.int .i64 (.ofNat 444)),(.int .i64 (.ofNat 445)),(.int .i64 (.ofNat 0)),(.int .i64 (.ofNat 3)),(.int .i64 (.ofNat 445)),(.int .i64 (.ofNat 446)),(.int .i64 (.ofNat 0)),(.int .i64 (.ofNat 3)),(.int .i64 (.ofNat 447)),(.int .i64 (.ofNat 449)),(.int .i64 (.ofNat 0)),(.int .i64 (.ofNat 1)),(.int .i64 (.ofNat 450)),(.int .i64 (.ofNat 451)),(.int .i64 (.ofNat 0)),(.int .i64 (.ofNat 3)),(.int .i64 (.ofNat 452)),(.int .i64 (.ofNat 454)),(.int .i64 (.ofNat 0)),(.int .i64 (.ofNat 1)),(.int .i64 (.ofNat 455)),(.int .i64 (.ofNat 459)),(.int .i64 (.ofNat 0)),(.int .i64 (.ofNat 3)),(.int .i64 (.ofNat 459)),(.int .i64 (.ofNat 460)),(.int .i64 (.ofNat 0)),(.int .i64 (.ofNat 1)),(.int .i64 (.ofNat 460)),(.int .i64 (.ofNat 461)),(.int .i64 (.ofNat 0)),(.int .i64 (.ofNat 3)),(.int .i64 (.ofNat 462)),(.int .i64 (.ofNat 464)),(.int .i64 (.ofNat 0)),(.int .i64 (.ofNat 1)),(.int .i64 (.ofNat 465)),(.int .i64 (.ofNat 466)),(.int .i64 (.ofNat 0)),(.int .i64 (.ofNat 3)),(.int .i64 (.ofNat 467)),(.int .i64 (.ofNat 469)),(.int .i64 (.ofNat 0)),(.int .i64 (.ofNat 1)),(.int .i64 (.ofNat 470)),(.int .i64 (.ofNat 471)),(.int .i64 (.ofNat 0)),(.int .i64 (.ofNat 3)),(.int .i64 (.ofNat 471)),(.int .i64 (.ofNat 472)),(.int .i64 (.ofNat 0)),(.int .i64 (.ofNat 1)),(.int .i64 (.ofNat 472)),(.int .i64 (.ofNat 473)),(.int .i64 (.ofNat 0)),(.int .i64 (.ofNat 3)),(.int .i64 (.ofNat 473)),(.int .i64 (.ofNat 474)),(.int .i64 (.ofNat 0)),(.int .i64 (.ofNat 3)),(.int .i64 (.ofNat 474)),(.int .i64 (.ofNat 475)),(.int .i64 (.ofNat 0)),(.int .i64 (.ofNat 1)),(.int .i64 (.ofNat 476)),(.int .i64 (.ofNat 477)),(.int .i64 (.ofNat 0)),(.int .i64 (.ofNat 3)),(.int .i64 (.ofNat 478)),(.int .i64 (.ofNat 480)),(.int .i64 (.ofNat 0)),(.int .i64 (.ofNat 1)),(.int .i64 (.ofNat 481)),(.int .i64 (.ofNat 485)),(.int .i64 (.ofNat 0)),(.int .i64 (.ofNat 3)),(.int .i64 (.ofNat 485)),(.int .i64 (.ofNat 486)),(.int .i64 (.ofNat 0)),(.int .i64 (.ofNat 1)),(.int .i64 (.ofNat 486)),(.int .i64 (.ofNat 487)),(.int .i64 (.ofNat 0)),(.int .i64 (.ofNat 3)),(.int .i64 (.ofNat 488)),(.int .i64 (.ofNat 490)),(.int .i64 (.ofNat 0)),(.int .i64 (.ofNat 1)),(.int .i64 (.ofNat 491)),(.int .i64 (.ofNat 492)),(.int .i64 (.ofNat 0)),(.int .i64 (.ofNat 3)),(.int .i64 (.ofNat 493)),(.int .i64 (.ofNat 495)),(.int .i64 (.ofNat 0)),(.int .i64 (.ofNat 1)),(.int .i64 (.ofNat 496)),(.int .i64 (.ofNat 497)),(.int .i64 (.ofNat 0)),(.int .i64 (.ofNat 3)),(.int .i64 (.ofNat 497)),(.int .i64 (.ofNat 498)),(.int .i64 (.ofNat 0)),(.int .i64 (.ofNat 1)),(.int .i64 (.ofNat 498)),(.int .i64 (.ofNat 499)),(.int .i64 (.ofNat 0)),(.int .i64 (.ofNat 3)),(.int .i64 (.ofNat 499)),(.int .i64 (.ofNat 500)),(.int .i64 (.ofNat 0)),(.int .i64 (.ofNat 3)),(.int .i64 (.ofNat 500)),(.int .i64 (.ofNat 501)),(.int .i64 (.ofNat 0)),(.int .i64 (.ofNat 1)),(.int .i64 (.ofNat 502)),(.int .i64 (.ofNat 506)),(.int .i64 (.ofNat 0)),(.int .i64 (.ofNat 1)),(.int .i64 (.ofNat 507)),(.int .i64 (.ofNat 513)),(.int .i64 (.ofNat 0)),(.int .i64 (.ofNat 3)),(.int .i64 (.ofNat 513)),(.int .i64 (.ofNat 514)),(.int .i64 (.ofNat 0)),(.int .i64 (.ofNat 1)),(.int .i64 (.ofNat 515)),(.int .i64 (.ofNat 516)),(.int .i64 (.ofNat 0)),(.int .i64 (.ofNat 3)),(.int .i64 (.ofNat 517)),(.int .i64 (.ofNat 519)),(.int .i64 (.ofNat 0)),(.int .i64 (.ofNat 1)),(.int .i64 (.ofNat 520)),(.int .i64 (.ofNat 523)),(.int .i64 (.ofNat 0)),(.int .i64 (.ofNat 3)),(.int .i64 (.ofNat 523)),(.int .i64 (.ofNat 524)),(.int .i64 (.ofNat 0)),(.int .i64 (.ofNat 1)),(.int .i64 (.ofNat 524)),(.int .i64 (.ofNat 525)),(.int .i64 (.ofNat 0)),(.int .i64 (.ofNat 3)),(.int .i64 (.ofNat 525)),(.int .i64 (.ofNat 526)),(.int .i64 (.ofNat 0)),(.int .i64 (.ofNat 1)),(.int .i64 (.ofNat 526)),(.int .i64 (.ofNat 527)),(.int .i64 (.ofNat 0)),(.int .i64 (.ofNat 3)),(.int .i64 (.ofNat 528)),(.int .i64 (.ofNat 530)),(.int .i64 (.ofNat 0)),(.int .i64 (.ofNat 1)),(.int .i64 (.ofNat 531)),(.int .i64 (.ofNat 532)),(.int .i64 (.ofNat 0)),(.int .i64 (.ofNat 3)),(.int .i64 (.ofNat 532)),(.int .i64 (.ofNat 533)),(.int .i64 (.ofNat 0)),(.int .i64 (.ofNat 1)),(.int .i64 (.ofNat 533)),(.int .i64 (.ofNat 537)),(.int .i64 (.ofNat 0)),(.int .i64 (.ofNat 3)),(.int .i64 (.ofNat 538)),(.int .i64 (.ofNat 540)),(.int .i64 (.ofNat 0)),(.int .i64 (.ofNat 3)),(.int .i64 (.ofNat 541)),(.int .i64 (.ofNat 542)),(.int .i64 (.ofNat 0)),(.int .i64 (.ofNat 1)),(.int .i64 (.ofNat 542)),(.int .i64 (.ofNat 543)),(.int .i64 (.ofNat 0)),(.int .i64 (.ofNat 3)),(.int .i64 (.ofNat 543)),(.int .i64 (.ofNat 544)),(.int .i64 (.ofNat 0)),(.int .i64 (.ofNat 1)),(.int .i64 (.ofNat 544)),(.int .i64 (.ofNat 545)),(.int .i64 (.ofNat 0)),(.int .i64 (.ofNat 3)),(.int .i64 (.ofNat 546)),(.int .i64 (.ofNat 548)),(.int .i64 (.ofNat 0)),(.int .i64 (.ofNat 1)),(.int .i64 (.ofNat 549)),(.int .i64 (.ofNat 550)),(.int .i64 (.ofNat 0)),(.int .i64 (.ofNat 3)),(.int .i64 (.ofNat 550)),(.int .i64 (.ofNat 551)),(.int .i64 (.ofNat 0)),(.int .i64 (.ofNat 1)),(.int .i64 (.ofNat 551)),(.int .i64 (.ofNat 552)),(.int .i64 (.ofNat 0)),(.int .i64 (.ofNat 3)),(.int .i64 (.ofNat 553)),(.int .i64 (.ofNat 555)),(.int .i64 (.ofNat 0)),(.int .i64 (.ofNat 1)),(.int .i64 (.ofNat 556)),(.int .i64 (.ofNat 557)),(.int .i64 (.ofNat 0)),(.int .i64 (.ofNat 3)),(.int .i64 (.ofNat 557)),(.int .i64 (.ofNat 558)),(.int .i64 (.ofNat 0)),(.int .i64 (.ofNat 3)),(.int .i64 (.ofNat 559)),(.int .i64 (.ofNat 561)),(.int .i64 (.ofNat 0)),(.int .i64 (.ofNat 1)),(.int .i64 (.ofNat 562)),(.int .i64 (.ofNat 563)),(.int .i64 (.ofNat 0)),(.int .i64 (.ofNat 3)),(.int .i64 (.ofNat 564)),(.int .i64 (.ofNat 566)),(.int .i64 (.ofNat 0)),(.int .i64 (.ofNat 1)),(.int .i64 (.ofNat 567)),(.int .i64 (.ofNat 572)),(.int .i64 (.ofNat 0)),(.int .i64 (.ofNat 3)),(.int .i64 (.ofNat 572)),(.int .i64 (.ofNat 573)),(.int .i64 (.ofNat 0)),(.int .i64 (.ofNat 1)),(.int .i64 (.ofNat 574)),(.int .i64 (.ofNat 575)),(.int .i64 (.ofNat 0)),(.int .i64 (.ofNat 3)),(.int .i64 (.ofNat 576)),(.int .i64 (.ofNat 578)),(.int .i64 (.ofNat 0)),(.int .i64 (.ofNat 1)),(.int .i64 (.ofNat 579)),(.int .i64 (.ofNat 580)),(.int .i64 (.ofNat 0)),(.int .i64 (.ofNat 3)),(.int .i64 (.ofNat 581)),(.int .i64 (.ofNat 582)),(.int .i64 (.ofNat 0)),(.int .i64 (.ofNat 1)),(.int .i64 (.ofNat 583)),(.int .i64 (.ofNat 586)),(.int .i64 (.ofNat 0)),(.int .i64 (.ofNat 3)),(.int .i64 (.ofNat 586)),(.int .i64 (.ofNat 587)),(.int .i64 (.ofNat 0)),(.int .i64 (.ofNat 1)),(.int .i64 (.ofNat 587)),(.int .i64 (.ofNat 588)),(.int .i64 (.ofNat 0)),(.int .i64 (.ofNat 3)),(.int .i64 (.ofNat 588)),(.int .i64 (.ofNat 589)),(.int .i64 (.ofNat 0)),(.int .i64 (.ofNat 1)),(.int .i64 (.ofNat 589)),(.int .i64 (.ofNat 590)),(.int .i64 (.ofNat 0)),(.int .i64 (.ofNat 3)),(.int .i64 (.ofNat 591)),(.int .i64 (.ofNat 593)),(.int .i64 (.ofNat 0)),(.int .i64 (.ofNat 1)),(.int .i64 (.ofNat 594)),(.int .i64 (.ofNat 595)),(.int .i64 (.ofNat 0)),(.int .i64 (.ofNat 3)),(.int .i64 (.ofNat 595)),(.int .i64 (.ofNat 596)),(.int .i64 (.ofNat 0)),(.int .i64 (.ofNat 1)),(.int .i64 (.ofNat 596)),(.int .i64 (.ofNat 600)),(.int .i64 (.ofNat 0)),(.int .i64 (.ofNat 3)),(.int .i64 (.ofNat 601)),(.int .i64 (.ofNat 602)),(.int .i64 (.ofNat 0)),(.int .i64 (.ofNat 1)),(.int .i64 (.ofNat 603)),(.int .i64 (.ofNat 604)),(.int .i64 (.ofNat 0)),(.int .i64 (.ofNat 3)),(.int .i64 (.ofNat 604)),(.int .i64 (.ofNat 605)),(.int .i64 (.ofNat 0)),(.int .i64 (.ofNat 1)),(.int .i64 (.ofNat 605)),(.int .i64 (.ofNat 606)),(.int .i64 (.ofNat 0)),(.int .i64 (.ofNat 3)),(.int .i64 (.ofNat 607)),(.int .i64 (.ofNat 608)),(.int .i64 (.ofNat 0)),(.int .i64 (.ofNat 2)),(.int .i64 (.ofNat 609)),(.int .i64 (.ofNat 610)),(.int .i64 (.ofNat 0)),(.int .i64 (.ofNat 3)),(.int .i64 (.ofNat 610)),(.int .i64 (.ofNat 611)),(.int .i64 (.ofNat 0)),(.int .i64 (.ofNat 3)),(.int .i64 (.ofNat 611)),(.int .i64 (.ofNat 612)),(.int .i64 (.ofNat 0))])]
set_option maxHeartbeats 4000000 in
theorem me0:memoR rtab gp 4000 94 mu0 [2345]=some (mg0,2346,mo0):=by kernel_rfl
noncomputable def gextm1 (f:Nat) (us:List GV) (H:GH):Option (GV×GH):=bif Nat.beq f 94 then(bif isS us (71249362481079977452884316497893485862003781378380186443723211848324143362108177885825419081494821760013661206001097331844441314216469646330948494578433579262219834318486201028918376115292234488190700106942185120577518256511015159373632050200221875266428893346870089151936961848021402711157309556811570579452411680726714441114401627388096496024253845716638330773660915918662884872349758420128557367125203571583786029032399741638474503939646749525176616068912753182428383816770282999284942596549464335299041578590498704846876479973995637544997300808465629673589532931271276867856109758593603349879408733903821463777771303521998656430507938449710980075854559363989016083892713040828720973422783465502057059703922495107079261490020884616910566195303447459199789638099550237825859650229398681345092860498350921460315705906616442288394582691200440280135629162006963382844585911948056220785599387271665395519496413351471157088698250728565328718568235708145832114557345173602352771027404378663854631932098478169816132556163210119982019532849716161103768839540877472227068661770096791273707001174665743715154553128055607401500841088534854391588672059193795601211258321011231050774593156430084765392881009496824427195855467792851940283086600280108372309832209821085536023972216446949998813815478863454932518093775342849783278727011324956570494402720150194198228748565212249332223202955995657936385103356277284401707377096495385107540722377361240699143073602638306000298122043359982192,613)then memoK mg0 2346 mo0 H else gext f us H)else gext f us H
noncomputable def gpm1:GP:=⟨tyTab,gp.cat,gextm1,gp.exn⟩
theorem gextm1_ok {T:Nat} {w0:Base (gl T)} {w:World} {ρ:Rho} {H H':GH} {g:GV} {us:List GV} {vs:List Value} {f:Nat} (h:gextm1 f us H=some (g,H')) (R:Rel w0 ρ H w) (hr:RlL ρ us vs):CallSem Tryz.prog w0 ρ f vs w g H':=by
 unfold gextm1 at h
 cases e1:Nat.beq f 94 with
 |false=>rw[e1]at h;exact gext_ok h R hr
 | true =>
  rw[e1]at h
  cases e2:isS us (71249362481079977452884316497893485862003781378380186443723211848324143362108177885825419081494821760013661206001097331844441314216469646330948494578433579262219834318486201028918376115292234488190700106942185120577518256511015159373632050200221875266428893346870089151936961848021402711157309556811570579452411680726714441114401627388096496024253845716638330773660915918662884872349758420128557367125203571583786029032399741638474503939646749525176616068912753182428383816770282999284942596549464335299041578590498704846876479973995637544997300808465629673589532931271276867856109758593603349879408733903821463777771303521998656430507938449710980075854559363989016083892713040828720973422783465502057059703922495107079261490020884616910566195303447459199789638099550237825859650229398681345092860498350921460315705906616442288394582691200440280135629162006963382844585911948056220785599387271665395519496413351471157088698250728565328718568235708145832114557345173602352771027404378663854631932098478169816132556163210119982019532849716161103768839540877472227068661770096791273707001174665743715154553128055607401500841088534854391588672059193795601211258321011231050774593156430084765392881009496824427195855467792851940283086600280108372309832209821085536023972216446949998813815478863454932518093775342849783278727011324956570494402720150194198228748565212249332223202955995657936385103356277284401707377096495385107540722377361240699143073602638306000298122043359982192,613)with
  |false=>rw[e2]at h;exact gext_ok h R hr
  |true=>
   rw[e2]at h;rw[Nat.eq_of_beq_eq_true e1]
   rw[isS_eq e2]at hr
   obtain⟨V,rfl,hv⟩:=hr.one
   obtain⟨x,rfl,e3,e4⟩:=hv.str_inv
   exact memo_ok (gs:=gl T) rtab_ok gok me0 Tryz.call94 (RlL.cons (rl_str e3 e4) .nil) h R
theorem gokm1 {T:Nat} (w0:Base (gl T)):GOk Tryz.prog gpm1 rtab.fns w0:=⟨(gok w0).tab,(gok w0).mixed,(gok w0).fns,fun h ρ w vs R hr=>gextm1_ok h R hr,(gok w0).exn,(gok w0).cat⟩
def mu1:List GV:=[.str 71249362481079977452884316497893485862003781378380186443723211848324143362108177885825419081494821760013661206001097331844441314216469646330948494578433579262219834318486201028918376115292234488190700106942185120577518256511015159373632050200221875266428893346870089151936961848021402711157309556811570579452411680726714441114401627388096496024253845716638330773660915918662884872349758420128557367125203571583786029032399741638474503939646749525176616068912753182428383816770282999284942596549464335299041578590498704846876479973995637544997300808465629673589532931271276867856109758593603349879408733903821463777771303521998656430507938449710980075854559363989016083892713040828720973422783465502057059703922495107079261490020884616910566195303447459199789638099550237825859650229398681345092860498350921460315705906616442288394582691200440280135629162006963382844585911948056220785599387271665395519496413351471157088698250728565328718568235708145832114557345173602352771027404378663854631932098478169816132556163210119982019532849716161103768839540877472227068661770096791273707001174665743715154553128055607401500841088534854391588672059193795601211258321011231050774593156430084765392881009496824427195855467792851940283086600280108372309832209821085536023972216446949998813815478863454932518093775342849783278727011324956570494402720150194198228748565212249332223202955995657936385103356277284401707377096495385107540722377361240699143073602638306000298122043359982192 613]
def mg1:GV:=(.agg [(.str 8390039475830484595 8),(.sl 2615 0 6 6),(.sl 4519 0 5 3)])
def mo1:OL:=[(2615,2615,.cells [(.str 100 1),(.int .i64 (.ofNat 1)),(.int .i64 (.ofNat 0)),(.int .i64 (.ofNat 0)),(.int .i64 (.ofNat 1)),(.int .i64 (.ofNat 0)),(.str 112 1),(.int .i64 (.ofNat 3)),(.int .i64 (.ofNat 0)),(.int .i64 (.ofNat 0)),(.int .i64 (.ofNat 0)),(.int .i64 (.ofNat 0)),(.str 115 1),(.int .i64 (.ofNat 2)),(.int .i64 (.ofNat 0)),(.int .i64 (.ofNat 0)),(.int .i64 (.ofNat 0)),(.int .i64 (.ofNat 0)),(.str 98 1),(.int .i64 (.ofNat 2)),(.int .i64 (.ofNat 0)),(.int .i64 (.ofNat 0)),(.int .i64 (.ofNat 0)),(.int .i64 (.ofNat 0)),(.str 120 1),(.int .i64 (.ofNat 1)),(.int .i64 (.ofNat 0)),(.int .i64 (.ofNat 15)),(.int .i64 (.ofNat 0)),(.int .i64 (.ofNat 0)),(.str 97 1),(.int .i64 (.ofNat 1)),(.int .i64 (.ofNat 0)),(.int .i64 (.ofNat 0)),(.int .i64 (.ofNat 15)),(.int .i64 (.ofNat 0))]),
 (2739,2739,.cells [(.int .i64 (.ofNat 41)),(.int .i64 (.ofNat 0)),(.int .i64 (.ofNat 10)),(.int .i64 (.ofNat 0)),(.int .i64 (.ofNat 42)),(.int .i64 (.ofNat 0)),(.int .i64 (.ofNat 36)),(.int .i64 (.ofNat 0)),(.int .i64 (.ofNat 5)),(.int .i64 (.ofNat 0)),(.int .i64 (.ofNat 1)),(.int .i64 (.ofNat 0)),(.int .i64 (.ofNat 36)),(.int .i64 (.ofNat 0)),(.int .i64 (.ofNat 5)),(.int .i64 (.ofNat 1)),(.int .i64 (.ofNat 4)),(.int .i64 (.ofNat 0))]),
 (2765,2765,.cells [(.int .i64 (.ofNat 1)),(.int .i64 (.ofNat 0))]),
 (2798,2798,.cells [(.int .i64 (.ofNat 4)),(.int .i64 (.ofNat 0))]),
 (2806,2806,.cells [(.int .i64 (.ofNat 0)),(.sl 2765 0 1 2),(.int .i64 (.ofNat 1)),(.sl 2798 0 1 2)]),
 (3194,3194,.cells [(.int .i64 (.ofNat 41)),(.int .i64 (.ofNat 0)),(.int .i64 (.ofNat 19)),(.int .i64 (.ofNat 0)),(.int .i64 (.ofNat 10)),(.int .i64 (.ofNat 0)),(.int .i64 (.ofNat 42)),(.int .i64 (.ofNat 0)),(.int .i64 (.ofNat 36)),(.int .i64 (.ofNat 0)),(.int .i64 (.ofNat 5)),(.int .i64 (.ofNat 0)),(.int .i64 (.ofNat 43)),(.int .i64 (.ofNat 0)),(.int .i64 (.ofNat 37)),(.int .i64 (.ofNat 0)),(.int .i64 (.ofNat 24)),(.int .i64 (.ofNat 0)),(.int .i64 (.ofNat 12)),(.int .i64 (.ofNat 0)),(.int .i64 (.ofNat 6)),(.int .i64 (.ofNat 0)),(.int .i64 (.ofNat 33)),(.int .i64 (.ofNat 0)),(.int .i64 (.ofNat 24)),(.int .i64 (.ofNat 0)),(.int .i64 (.ofNat 12)),(.int .i64 (.ofNat 0)),(.int .i64 (.ofNat 1)),(.int .i64 (.ofNat 1)),(.int .i64 (.ofNat 6)),(.int .i64 (.ofNat 0)),(.int .i64 (.ofNat 36)),(.int .i64 (.ofNat 0)),(.int .i64 (.ofNat 5)),(.int .i64 (.ofNat 1)),(.int .i64 (.ofNat 23)),(.int .i64 (.ofNat 0)),(.int .i64 (.ofNat 35)),(.int .i64 (.ofNat 0)),(.int .i64 (.ofNat 12)),(.int .i64 (.ofNat 0)),(.int .i64 (.ofNat 24)),(.int .i64 (.ofNat 0)),(.int .i64 (.ofNat 12)),(.int .i64 (.ofNat 0))]),
 (3375,3375,.cells [(.int .i64 (.ofNat 43)),(.int .i64 (.ofNat 0)),(.int .i64 (.ofNat 37)),(.int .i64 (.ofNat 0)),(.int .i64 (.ofNat 24)),(.int .i64 (.ofNat 0)),(.int .i64 (.ofNat 12)),(.int .i64 (.ofNat 0)),(.int .i64 (.ofNat 6)),(.int .i64 (.ofNat 0)),(.int .i64 (.ofNat 33)),(.int .i64 (.ofNat 0)),(.int .i64 (.ofNat 24)),(.int .i64 (.ofNat 0)),(.int .i64 (.ofNat 12)),(.int .i64 (.ofNat 0)),(.int .i64 (.ofNat 1)),(.int .i64 (.ofNat 1)),(.int .i64 (.ofNat 6)),(.int .i64 (.ofNat 0))]),
 (3501,3501,.cells [(.int .i64 (.ofNat 23)),(.int .i64 (.ofNat 0)),(.int .i64 (.ofNat 35)),(.int .i64 (.ofNat 0)),(.int .i64 (.ofNat 12)),(.int .i64 (.ofNat 0)),(.int .i64 (.ofNat 24)),(.int .i64 (.ofNat 0)),(.int .i64 (.ofNat 12)),(.int .i64 (.ofNat 0))]),
 (3509,3509,.cells [(.int .i64 (.ofNat 0)),(.sl 3375 0 10 2),(.int .i64 (.ofNat 1)),(.sl 3501 0 5 2)]),
 (3577,3577,.cells [(.int .i64 (.ofNat 41)),(.int .i64 (.ofNat 0)),(.int .i64 (.ofNat 10)),(.int .i64 (.ofNat 0)),(.int .i64 (.ofNat 19)),(.int .i64 (.ofNat 0)),(.int .i64 (.ofNat 5)),(.int .i64 (.ofNat 2))]),
 (3604,3604,.cells [(.int .i64 (.ofNat 2)),(.int .i64 (.ofNat 0))]),
 (3646,3646,.cells [(.int .i64 (.ofNat 19)),(.int .i64 (.ofNat 0)),(.int .i64 (.ofNat 5)),(.int .i64 (.ofNat 3))]),
 (3654,3654,.cells [(.int .i64 (.ofNat 2)),(.sl 3604 0 1 2),(.int .i64 (.ofNat 3)),(.sl 3646 0 2 2)]),
 (3888,3888,.cells [(.int .i64 (.ofNat 41)),(.int .i64 (.ofNat 0)),(.int .i64 (.ofNat 19)),(.int .i64 (.ofNat 0)),(.int .i64 (.ofNat 10)),(.int .i64 (.ofNat 0)),(.int .i64 (.ofNat 21)),(.int .i64 (.ofNat 0)),(.int .i64 (.ofNat 41)),(.int .i64 (.ofNat 0)),(.int .i64 (.ofNat 35)),(.int .i64 (.ofNat 0)),(.int .i64 (.ofNat 11)),(.int .i64 (.ofNat 0)),(.int .i64 (.ofNat 5)),(.int .i64 (.ofNat 1)),(.int .i64 (.ofNat 42)),(.int .i64 (.ofNat 0)),(.int .i64 (.ofNat 36)),(.int .i64 (.ofNat 0)),(.int .i64 (.ofNat 12)),(.int .i64 (.ofNat 3)),(.int .i64 (.ofNat 5)),(.int .i64 (.ofNat 3)),(.int .i64 (.ofNat 41)),(.int .i64 (.ofNat 0)),(.int .i64 (.ofNat 5)),(.int .i64 (.ofNat 2)),(.int .i64 (.ofNat 19)),(.int .i64 (.ofNat 0)),(.int .i64 (.ofNat 12)),(.int .i64 (.ofNat 2))]),
 (3988,3988,.cells [(.int .i64 (.ofNat 21)),(.int .i64 (.ofNat 0)),(.int .i64 (.ofNat 41)),(.int .i64 (.ofNat 0)),(.int .i64 (.ofNat 35)),(.int .i64 (.ofNat 0)),(.int .i64 (.ofNat 11)),(.int .i64 (.ofNat 0)),(.int .i64 (.ofNat 5)),(.int .i64 (.ofNat 1)),(.int .i64 (.ofNat 12)),(.int .i64 (.ofNat 2))]),
 (4094,4094,.cells [(.int .i64 (.ofNat 21)),(.int .i64 (.ofNat 0)),(.int .i64 (.ofNat 41)),(.int .i64 (.ofNat 0)),(.int .i64 (.ofNat 35)),(.int .i64 (.ofNat 0)),(.int .i64 (.ofNat 11)),(.int .i64 (.ofNat 0)),(.int .i64 (.ofNat 5)),(.int .i64 (.ofNat 1)),(.int .i64 (.ofNat 12)),(.int .i64 (.ofNat 3))]),
 (4102,4102,.cells [(.int .i64 (.ofNat 2)),(.sl 3988 0 6 2),(.int .i64 (.ofNat 3)),(.sl 4094 0 6 2)]),
 (4313,4313,.cells [(.int .i64 (.ofNat 41)),(.int .i64 (.ofNat 0)),(.int .i64 (.ofNat 5)),(.int .i64 (.ofNat 2)),(.int .i64 (.ofNat 20)),(.int .i64 (.ofNat 0)),(.int .i64 (.ofNat 42)),(.int .i64 (.ofNat 0)),(.int .i64 (.ofNat 36)),(.int .i64 (.ofNat 0)),(.int .i64 (.ofNat 12)),(.int .i64 (.ofNat 1)),(.int .i64 (.ofNat 17)),(.int .i64 (.ofNat 0)),(.int .i64 (.ofNat 41)),(.int .i64 (.ofNat 0)),(.int .i64 (.ofNat 19)),(.int .i64 (.ofNat 0)),(.int .i64 (.ofNat 12)),(.int .i64 (.ofNat 2)),(.int .i64 (.ofNat 35)),(.int .i64 (.ofNat 0)),(.int .i64 (.ofNat 12)),(.int .i64 (.ofNat 3)),(.int .i64 (.ofNat 5)),(.int .i64 (.ofNat 3))]),
 (4340,4340,.cells [(.int .i64 (.ofNat 3)),(.int .i64 (.ofNat 0))]),
 (4504,4504,.cells [(.int .i64 (.ofNat 33)),(.int .i64 (.ofNat 0)),(.int .i64 (.ofNat 5)),(.int .i64 (.ofNat 4)),(.int .i64 (.ofNat 26)),(.int .i64 (.ofNat 0)),(.int .i64 (.ofNat 43)),(.int .i64 (.ofNat 0)),(.int .i64 (.ofNat 35)),(.int .i64 (.ofNat 0)),(.int .i64 (.ofNat 12)),(.int .i64 (.ofNat 1)),(.int .i64 (.ofNat 17)),(.int .i64 (.ofNat 0)),(.int .i64 (.ofNat 12)),(.int .i64 (.ofNat 5)),(.int .i64 (.ofNat 1)),(.int .i64 (.ofNat 0))]),
 (4511,4511,.cells [(.int .i64 (.ofNat 2)),(.sl 4340 0 1 2),(.int .i64 (.ofNat 5)),(.sl 4504 0 9 2)]),
 (4519,4519,.cells [(.str 7368564 3),(.sl 2739 0 9 2),(.sl 2806 0 2 2),(.str 7827308 3),(.sl 3194 0 23 2),(.sl 3509 0 2 2),(.str 474214786402 5),(.sl 3577 0 4 2),(.sl 3654 0 2 2),(.str 1701536116 4),(.sl 3888 0 16 2),(.sl 4102 0 2 2),(.str 114844899371366 6),(.sl 4313 0 13 2),(.sl 4511 0 2 2)])]
set_option maxHeartbeats 4000000 in
theorem me1:memoR rtab gpm1 4000 30 mu1 [2615,2739,2765,2798,2806,3194,3375,3501,3509,3577,3604,3646,3654,3888,3988,4094,4102,4313,4340,4504,4511,4519]=some (mg1,6842,mo1):=by kernel_rfl
noncomputable def gextm2 (f:Nat) (us:List GV) (H:GH):Option (GV×GH):=bif Nat.beq f 30 then(bif isS us (71249362481079977452884316497893485862003781378380186443723211848324143362108177885825419081494821760013661206001097331844441314216469646330948494578433579262219834318486201028918376115292234488190700106942185120577518256511015159373632050200221875266428893346870089151936961848021402711157309556811570579452411680726714441114401627388096496024253845716638330773660915918662884872349758420128557367125203571583786029032399741638474503939646749525176616068912753182428383816770282999284942596549464335299041578590498704846876479973995637544997300808465629673589532931271276867856109758593603349879408733903821463777771303521998656430507938449710980075854559363989016083892713040828720973422783465502057059703922495107079261490020884616910566195303447459199789638099550237825859650229398681345092860498350921460315705906616442288394582691200440280135629162006963382844585911948056220785599387271665395519496413351471157088698250728565328718568235708145832114557345173602352771027404378663854631932098478169816132556163210119982019532849716161103768839540877472227068661770096791273707001174665743715154553128055607401500841088534854391588672059193795601211258321011231050774593156430084765392881009496824427195855467792851940283086600280108372309832209821085536023972216446949998813815478863454932518093775342849783278727011324956570494402720150194198228748565212249332223202955995657936385103356277284401707377096495385107540722377361240699143073602638306000298122043359982192,613)then memoK mg1 6842 mo1 H else gextm1 f us H)else gextm1 f us H
noncomputable def gpm2:GP:=⟨tyTab,gp.cat,gextm2,gp.exn⟩
theorem gextm2_ok {T:Nat} {w0:Base (gl T)} {w:World} {ρ:Rho} {H H':GH} {g:GV} {us:List GV} {vs:List Value} {f:Nat} (h:gextm2 f us H=some (g,H')) (R:Rel w0 ρ H w) (hr:RlL ρ us vs):CallSem Tryz.prog w0 ρ f vs w g H':=by
 unfold gextm2 at h
 cases e1:Nat.beq f 30 with
 |false=>rw[e1]at h;exact gextm1_ok h R hr
 | true =>
  rw[e1]at h
  cases e2:isS us (71249362481079977452884316497893485862003781378380186443723211848324143362108177885825419081494821760013661206001097331844441314216469646330948494578433579262219834318486201028918376115292234488190700106942185120577518256511015159373632050200221875266428893346870089151936961848021402711157309556811570579452411680726714441114401627388096496024253845716638330773660915918662884872349758420128557367125203571583786029032399741638474503939646749525176616068912753182428383816770282999284942596549464335299041578590498704846876479973995637544997300808465629673589532931271276867856109758593603349879408733903821463777771303521998656430507938449710980075854559363989016083892713040828720973422783465502057059703922495107079261490020884616910566195303447459199789638099550237825859650229398681345092860498350921460315705906616442288394582691200440280135629162006963382844585911948056220785599387271665395519496413351471157088698250728565328718568235708145832114557345173602352771027404378663854631932098478169816132556163210119982019532849716161103768839540877472227068661770096791273707001174665743715154553128055607401500841088534854391588672059193795601211258321011231050774593156430084765392881009496824427195855467792851940283086600280108372309832209821085536023972216446949998813815478863454932518093775342849783278727011324956570494402720150194198228748565212249332223202955995657936385103356277284401707377096495385107540722377361240699143073602638306000298122043359982192,613)with
  |false=>rw[e2]at h;exact gextm1_ok h R hr
  |true=>
   rw[e2]at h;rw[Nat.eq_of_beq_eq_true e1]
   rw[isS_eq e2]at hr
   obtain⟨V,rfl,hv⟩:=hr.one
   obtain⟨x,rfl,e3,e4⟩:=hv.str_inv
   exact memo_ok (gs:=gl T) rtab_ok gokm1 me1 Tryz.call30 (RlL.cons (rl_str e3 e4) .nil) h R
theorem gokm2 {T:Nat} (w0:Base (gl T)):GOk Tryz.prog gpm2 rtab.fns w0:=⟨(gok w0).tab,(gok w0).mixed,(gok w0).fns,fun h ρ w vs R hr=>gextm2_ok h R hr,(gok w0).exn,(gok w0).cat⟩
noncomputable abbrev gp2:GP:=gpm2
theorem gok2 {T:Nat} (w0:Base (gl T)):GOk Tryz.prog gp2 rtab.fns w0:=gokm2 w0
end Go.Gx
end
section
namespace Go.Proofs.YtfbkplemadmbfaaGreatDoor
open Go Go.Sx Go.Gx
set_option maxRecDepth 100000
def m_law37_known (fuel:Nat):Option (Bool):=some (true)
theorem body20:HasBody Tryz.prog 20:=Tryz.call20
theorem closed20:okT (callR rtab gp2 4000 20 [] H0)=true:=by kernel_rfl
theorem t_law37_known (fuel:Nat) (r:Bool) (h:m_law37_known fuel=some r):
  Meets Tryz.prog 20 #[] [Gb 0 (cellsOf EU8 tab0)] (fun x:Unit=>Value.bool (r)) (fun x l=>l) (fun _ l=>l):=by
 obtain rfl:=Option.some.inj h
 obtain⟨H',h1⟩:=okT_spec closed20
 rw[callR_eq rtab_ok]at h1
 exact meets_closed glsOne body20 (fun ρ V' h=>h.bool_inv) fun T b=>callF_ok (gs:=gl T) gok2 h1 (Rel.start b) .nil
end Go.Proofs.YtfbkplemadmbfaaGreatDoor
end
section
namespace Go.Proofs.YtfbkplemadmbfaaGreatDoor
open Go.Sx
def m_ref37_Fit (fuel:Nat) (p0:List (Int)×(List (List (Int×Int)))):Option (Bool):=
 Option.bind (m_ref01_Connected fuel ((p0.1,p0.2))) fun r2=>(some (r2))
theorem body22:HasBody Tryz.prog 22:=Tryz.call22
theorem t_ref37_Fit (fuel:Nat) {p0:List (Int)×(List (List (Int×Int)))} (v0:Value)  (v1:Value)  (z2:List (Value×List (Int×Int))) (r:Bool) (h:m_ref37_Fit fuel p0=some r):
  Meets Tryz.prog 22 #[Value.agg #[v0,v1]] [Sl RI64 v0 p0.1,S2 RI64I64p v1 z2 p0.2] (fun x:Unit=>Value.bool (r)) (fun x l=>l) (fun _ l=>l):=by
 refine Meets.of (vs:=[Value.agg #[v0,v1]]) Tryz.func22 rfl Tryz.ntmps22 rfl fun c=> ?_
 unfold m_ref37_Fit at h
 refine J.seq<|J.region<|J.loud (Loud.box (cs:=[v0,v1]) rfl rfl) rfl fun b1=>J.quiet (Y.assign rfl) rfl<|J.done<|J.thenN<|J.seq<|J.region<|J.quiet (Y.loadBAll 0 rfl rfl rfl rfl) rfl ?_
 have h:=bnd h;obtain⟨r2,hr3,h⟩:=h
 refine J.loud (Loud.callL body41 (t_ref01_Connected fuel v0 v1 z2 r2 hr3) rfl (LentAll.cons (Lent.fact 0 rfl) (LentAll.cons (Lent.fact 1 rfl) .nil)) (fun _ _=>rfl)) rfl fun x4=>J.quiet (Y.assign rfl) rfl<|J.done<|J.thenN<|J.ret ?_
 obtain rfl:=Option.some.inj h
 exact J.retG1 (()) rfl rfl (RV.tmp rfl) (SubM.nil) LentAll.nil
end Go.Proofs.YtfbkplemadmbfaaGreatDoor
end
section
namespace Go.Proofs.YtfbkplemadmbfaaGreatDoor
open Go.Sx
def m_ref23_Truth (fuel:Nat) (p0:ByteArray):Option ((ByteArray×Int×Int×Int×Int×Int)):=
 some ((p0,(2:Int),(0:Int),(0:Int),(0:Int),(0:Int)))
theorem body88:HasBody Tryz.prog 88:=Tryz.call88
theorem t_ref23_Truth (fuel:Nat) {p0:ByteArray} (r:(ByteArray×Int×Int×Int×Int×Int)) (h:m_ref23_Truth fuel p0=some r):
  Meets Tryz.prog 88 #[Value.string (p0)] [] (fun x:Unit=>Value.agg #[Value.string (r.1),Value.int .i64 (r.2.1),Value.int .i64 (r.2.2.1),Value.int .i64 (r.2.2.2.1),Value.int .i64 (r.2.2.2.2.1),Value.int .i64 (r.2.2.2.2.2)]) (fun x l=>l) (fun _ l=>l):=by
 refine Meets.of (vs:=[Value.string (p0)]) Tryz.func88 rfl Tryz.ntmps88 rfl fun c=> ?_
 unfold m_ref23_Truth at h
 refine J.seq<|J.region<|J.loud (Loud.alloc (cs:=[Value.string (ByteArray.mk #[]),Value.int .i64 (0:Int),Value.int .i64 (0:Int),Value.int .i64 (0:Int),Value.int .i64 (0:Int),Value.int .i64 (0:Int)]) rfl rfl) rfl fun b1=>J.done<|J.thenN<|J.seq<|J.region<|J.quiet (Y.move rfl) rfl ?_
 refine J.quiet (Y.bld2 (r:=Value.agg #[Value.string (p0),Value.int .i64 (2:Int),Value.int .i64 (0:Int),Value.int .i64 (0:Int),Value.int .i64 (0:Int),Value.int .i64 (0:Int)]) rfl rfl (by intro w;simp[Instr.build,Instr.fill,cells_intV,cells_boolV,cells_sliceV,cells_ptrV,cells_strV,cells_funcV,cells_agg])) rfl ?_
 refine J.storeAll 0 (vs:=[Value.string (p0),Value.int .i64 (2:Int),Value.int .i64 (0:Int),Value.int .i64 (0:Int),Value.int .i64 (0:Int),Value.int .i64 (0:Int)]) rfl rfl rfl rfl rfl rfl<|J.done<|J.thenN<|J.ret ?_
 obtain rfl:=Option.some.inj h
 exact J.retG1 (()) rfl rfl (RV.cell 0 rfl rfl rfl rfl) (SubM.nil) LentAll.nil
end Go.Proofs.YtfbkplemadmbfaaGreatDoor
end
section
namespace Go.Proofs.YtfbkplemadmbfaaGreatDoor
open Go.Sx
def m_ref23_Number (fuel:Nat) (p0:ByteArray) (p1:Int) (p2:Int) (p3:Int):Option ((ByteArray×Int×Int×Int×Int×Int)):=
 some ((p0,(1:Int),(0:Int),p1,p2,p3))
theorem body87:HasBody Tryz.prog 87:=Tryz.call87
theorem t_ref23_Number (fuel:Nat) {p0:ByteArray} {p1:Int} {p2:Int} {p3:Int} (r:(ByteArray×Int×Int×Int×Int×Int)) (h:m_ref23_Number fuel p0 p1 p2 p3=some r):
  Meets Tryz.prog 87 #[Value.string (p0),Value.int .i64 (p1),Value.int .i64 (p2),Value.int .i64 (p3)] [] (fun x:Unit=>Value.agg #[Value.string (r.1),Value.int .i64 (r.2.1),Value.int .i64 (r.2.2.1),Value.int .i64 (r.2.2.2.1),Value.int .i64 (r.2.2.2.2.1),Value.int .i64 (r.2.2.2.2.2)]) (fun x l=>l) (fun _ l=>l):=by
 refine Meets.of (vs:=[Value.string (p0),Value.int .i64 (p1),Value.int .i64 (p2),Value.int .i64 (p3)]) Tryz.func87 rfl Tryz.ntmps87 rfl fun c=> ?_
 unfold m_ref23_Number at h
 refine J.seq<|J.region<|J.loud (Loud.alloc (cs:=[Value.string (ByteArray.mk #[]),Value.int .i64 (0:Int),Value.int .i64 (0:Int),Value.int .i64 (0:Int),Value.int .i64 (0:Int),Value.int .i64 (0:Int)]) rfl rfl) rfl fun b1=>J.done<|J.thenN<|J.seq<|J.region<|J.quiet (Y.move rfl) rfl<|J.quiet (Y.move rfl) rfl<|J.quiet (Y.move rfl) rfl<|J.quiet (Y.move rfl) rfl ?_
 refine J.quiet (Y.bld5 (r:=Value.agg #[Value.string (p0),Value.int .i64 (1:Int),Value.int .i64 (0:Int),Value.int .i64 (p1),Value.int .i64 (p2),Value.int .i64 (p3)]) rfl rfl rfl rfl rfl (by intro w;simp[Instr.build,Instr.fill,cells_intV,cells_boolV,cells_sliceV,cells_ptrV,cells_strV,cells_funcV,cells_agg])) rfl ?_
 refine J.storeAll 0 (vs:=[Value.string (p0),Value.int .i64 (1:Int),Value.int .i64 (0:Int),Value.int .i64 (p1),Value.int .i64 (p2),Value.int .i64 (p3)]) rfl rfl rfl rfl rfl rfl<|J.done<|J.thenN<|J.ret ?_
 obtain rfl:=Option.some.inj h
 exact J.retG1 (()) rfl rfl (RV.cell 0 rfl rfl rfl rfl) (SubM.nil) LentAll.nil
end Go.Proofs.YtfbkplemadmbfaaGreatDoor
end
section
namespace Go.Proofs.YtfbkplemadmbfaaGreatDoor
open Go.Sx
def m_ref23_Pointer (fuel:Nat) (p0:ByteArray):Option ((ByteArray×Int×Int×Int×Int×Int)):=
 some ((p0,(3:Int),(0:Int),(0:Int),(0:Int),(0:Int)))
theorem body139:HasBody Tryz.prog 139:=Tryz.call139
theorem t_ref23_Pointer (fuel:Nat) {p0:ByteArray} (r:(ByteArray×Int×Int×Int×Int×Int)) (h:m_ref23_Pointer fuel p0=some r):
  Meets Tryz.prog 139 #[Value.string (p0)] [] (fun x:Unit=>Value.agg #[Value.string (r.1),Value.int .i64 (r.2.1),Value.int .i64 (r.2.2.1),Value.int .i64 (r.2.2.2.1),Value.int .i64 (r.2.2.2.2.1),Value.int .i64 (r.2.2.2.2.2)]) (fun x l=>l) (fun _ l=>l):=by
 refine Meets.of (vs:=[Value.string (p0)]) Tryz.func139 rfl Tryz.ntmps139 rfl fun c=> ?_
 unfold m_ref23_Pointer at h
 refine J.seq<|J.region<|J.loud (Loud.alloc (cs:=[Value.string (ByteArray.mk #[]),Value.int .i64 (0:Int),Value.int .i64 (0:Int),Value.int .i64 (0:Int),Value.int .i64 (0:Int),Value.int .i64 (0:Int)]) rfl rfl) rfl fun b1=>J.done<|J.thenN<|J.seq<|J.region<|J.quiet (Y.move rfl) rfl ?_
 refine J.quiet (Y.bld2 (r:=Value.agg #[Value.string (p0),Value.int .i64 (3:Int),Value.int .i64 (0:Int),Value.int .i64 (0:Int),Value.int .i64 (0:Int),Value.int .i64 (0:Int)]) rfl rfl (by intro w;simp[Instr.build,Instr.fill,cells_intV,cells_boolV,cells_sliceV,cells_ptrV,cells_strV,cells_funcV,cells_agg])) rfl ?_
 refine J.storeAll 0 (vs:=[Value.string (p0),Value.int .i64 (3:Int),Value.int .i64 (0:Int),Value.int .i64 (0:Int),Value.int .i64 (0:Int),Value.int .i64 (0:Int)]) rfl rfl rfl rfl rfl rfl<|J.done<|J.thenN<|J.ret ?_
 obtain rfl:=Option.some.inj h
 exact J.retG1 (()) rfl rfl (RV.cell 0 rfl rfl rfl rfl) (SubM.nil) LentAll.nil
end Go.Proofs.YtfbkplemadmbfaaGreatDoor
end
section
namespace Go.Proofs.YtfbkplemadmbfaaGreatDoor
open Go.Sx
def m_ref23_Vars (fuel:Nat)  : Option ((List (ByteArray×Int×Int×Int×Int×Int))):=
 Option.bind (m_ref23_Number fuel (ByteArray.mk #[100]) (0:Int) (1:Int) (0:Int)) fun r1=>(Option.bind (m_ref23_Pointer fuel (ByteArray.mk #[112])) fun r4=>(some ([(r1.1,r1.2.1,r1.2.2.1,r1.2.2.2.1,r1.2.2.2.2.1,r1.2.2.2.2.2),(r4.1,r4.2.1,r4.2.2.1,r4.2.2.2.1,r4.2.2.2.2.1,r4.2.2.2.2.2)])))
theorem body110:HasBody Tryz.prog 110:=Tryz.call110
theorem t_ref23_Vars (fuel:Nat)  (r:(List (ByteArray×Int×Int×Int×Int×Int))) (h:m_ref23_Vars fuel  = some r):
  Meets Tryz.prog 110 #[] [] (fun x:Value=>x) (fun x l=>Ar EStI64I64I64I64I64p x r::l) (fun _ l=>l):=by
 refine Meets.of (vs:=[]) Tryz.func110 rfl Tryz.ntmps110 rfl fun c=> ?_
 unfold m_ref23_Vars at h
 refine J.seq<|J.region<|J.quiet (Y.assign rfl) rfl<|J.done<|J.thenN<|J.seq<|J.region ?_
 have h:=bnd h;obtain⟨r1,hr2,h⟩:=h
 refine J.loud (Loud.callL body87 (t_ref23_Number fuel  r1 hr2) rfl .nil (fun _ _=>rfl)) rfl fun x3=> ?_
 have h:=bnd h;obtain⟨r4,hr5,h⟩:=h
 refine J.loud (Loud.callL body139 (t_ref23_Pointer fuel  r4 hr5) rfl .nil (fun _ _=>rfl)) rfl fun x6=>J.loud (Loud.buildS (e:=EStI64I64I64I64I64p) ([((r1.1,r1.2.1,r1.2.2.1,r1.2.2.2.1,r1.2.2.2.2.1,r1.2.2.2.2.2)),((r4.1,r4.2.1,r4.2.2.1,r4.2.2.2.1,r4.2.2.2.2.1,r4.2.2.2.2.2))]) [(0,Value.agg #[Value.string (r1.1),Value.int .i64 (r1.2.1),Value.int .i64 (r1.2.2.1),Value.int .i64 (r1.2.2.2.1),Value.int .i64 (r1.2.2.2.2.1),Value.int .i64 (r1.2.2.2.2.2)]),(1,Value.agg #[Value.string (r4.1),Value.int .i64 (r4.2.1),Value.int .i64 (r4.2.2.1),Value.int .i64 (r4.2.2.2.1),Value.int .i64 (r4.2.2.2.2.1),Value.int .i64 (r4.2.2.2.2.2)])] rfl rfl rfl rfl (fill_2_6 (Value.string (r1.1)) (Value.int .i64 (r1.2.1)) (Value.int .i64 (r1.2.2.1)) (Value.int .i64 (r1.2.2.2.1)) (Value.int .i64 (r1.2.2.2.2.1)) (Value.int .i64 (r1.2.2.2.2.2)) (Value.string (r4.1)) (Value.int .i64 (r4.2.1)) (Value.int .i64 (r4.2.2.1)) (Value.int .i64 (r4.2.2.2.1)) (Value.int .i64 (r4.2.2.2.2.1)) (Value.int .i64 (r4.2.2.2.2.2))) rfl rfl rfl) rfl fun u7=>J.quiet (Y.assign rfl) rfl<|J.done<|J.thenN<|J.ret ?_
 obtain rfl:=Option.some.inj h
 exact J.retG1 (u7) rfl rfl (RV.tmp rfl) (SubM.refl _) LentAll.nil
end Go.Proofs.YtfbkplemadmbfaaGreatDoor
end
section
namespace Go.Proofs.YtfbkplemadmbfaaGreatDoor
open Go.Sx
def m_ref35_Vars (fuel:Nat)  : Option ((List (ByteArray×Int×Int×Int×Int×Int))):=
 Option.bind (m_ref23_Vars fuel) fun r1=>(Option.bind (m_ref23_Truth fuel (ByteArray.mk #[115])) fun r4=>(Option.bind (m_ref23_Truth fuel (ByteArray.mk #[98])) fun r7=>(ck ((List.length r1:Int)+(List.length ([(r4.1,r4.2.1,r4.2.2.1,r4.2.2.2.1,r4.2.2.2.2.1,r4.2.2.2.2.2),(r7.1,r7.2.1,r7.2.2.1,r7.2.2.2.1,r7.2.2.2.2.1,r7.2.2.2.2.2)]):Int)<=1099511627) (some (r1++([(r4.1,r4.2.1,r4.2.2.1,r4.2.2.2.1,r4.2.2.2.2.1,r4.2.2.2.2.2),(r7.1,r7.2.1,r7.2.2.1,r7.2.2.2.1,r7.2.2.2.2.1,r7.2.2.2.2.2)]))))))
theorem body86:HasBody Tryz.prog 86:=Tryz.call86
theorem t_ref35_Vars (fuel:Nat)  (r:(List (ByteArray×Int×Int×Int×Int×Int))) (h:m_ref35_Vars fuel  = some r):
  Meets Tryz.prog 86 #[] [] (fun x:Value=>x) (fun x l=>Ar EStI64I64I64I64I64p x r::l) (fun _ l=>l):=by
 refine Meets.of (vs:=[]) Tryz.func86 rfl Tryz.ntmps86 rfl fun c=> ?_
 unfold m_ref35_Vars at h
 refine J.seq<|J.region<|J.quiet (Y.assign rfl) rfl<|J.done<|J.thenN<|J.seq<|J.region ?_
 have h:=bnd h;obtain⟨r1,hr2,h⟩:=h
 refine J.loud (Loud.callL body110 (t_ref23_Vars fuel  r1 hr2) rfl .nil (fun _ _=>rfl)) rfl fun x3=> ?_
 have h:=bnd h;obtain⟨r4,hr5,h⟩:=h
 refine J.loud (Loud.callL body88 (t_ref23_Truth fuel  r4 hr5) rfl .nil (fun _ _=>rfl)) rfl fun x6=> ?_
 have h:=bnd h;obtain⟨r7,hr8,h⟩:=h
 refine J.loud (Loud.callL body88 (t_ref23_Truth fuel  r7 hr8) rfl .nil (fun _ _=>rfl)) rfl fun x9=>J.loud (Loud.buildS (e:=EStI64I64I64I64I64p) ([((r4.1,r4.2.1,r4.2.2.1,r4.2.2.2.1,r4.2.2.2.2.1,r4.2.2.2.2.2)),((r7.1,r7.2.1,r7.2.2.1,r7.2.2.2.1,r7.2.2.2.2.1,r7.2.2.2.2.2))]) [(0,Value.agg #[Value.string (r4.1),Value.int .i64 (r4.2.1),Value.int .i64 (r4.2.2.1),Value.int .i64 (r4.2.2.2.1),Value.int .i64 (r4.2.2.2.2.1),Value.int .i64 (r4.2.2.2.2.2)]),(1,Value.agg #[Value.string (r7.1),Value.int .i64 (r7.2.1),Value.int .i64 (r7.2.2.1),Value.int .i64 (r7.2.2.2.1),Value.int .i64 (r7.2.2.2.2.1),Value.int .i64 (r7.2.2.2.2.2)])] rfl rfl rfl rfl (fill_2_6 (Value.string (r4.1)) (Value.int .i64 (r4.2.1)) (Value.int .i64 (r4.2.2.1)) (Value.int .i64 (r4.2.2.2.1)) (Value.int .i64 (r4.2.2.2.2.1)) (Value.int .i64 (r4.2.2.2.2.2)) (Value.string (r7.1)) (Value.int .i64 (r7.2.1)) (Value.int .i64 (r7.2.2.1)) (Value.int .i64 (r7.2.2.2.1)) (Value.int .i64 (r7.2.2.2.2.1)) (Value.int .i64 (r7.2.2.2.2.2))) rfl rfl rfl) rfl fun u10=> ?_
 have h:=ck_some h;obtain⟨hc12,h⟩:=h
 refine J.loud (Loud.appendL 1 FStI64I64I64I64I64p rfl rfl rfl (Lent.ar (Lent.res 0 rfl) FStI64I64I64I64I64p) rfl rfl rfl rfl hc12 rfl) rfl fun u11=>J.quiet (Y.assign rfl) rfl<|J.done<|J.thenN<|J.ret ?_
 obtain rfl:=Option.some.inj h
 exact J.retG1 (u11) rfl rfl (RV.tmp rfl) (SubM.cons 1 rfl (SubM.nil)) LentAll.nil
end Go.Proofs.YtfbkplemadmbfaaGreatDoor
end
section
namespace Go.Proofs.YtfbkplemadmbfaaGreatDoor
open Go.Sx
def m_ref37_Vars (fuel:Nat)  : Option ((List (ByteArray×Int×Int×Int×Int×Int))):=
 Option.bind (m_ref35_Vars fuel) fun r1=>(Option.bind (m_ref23_Number fuel (ByteArray.mk #[120]) (15:Int) (0:Int) (0:Int)) fun r4=>(Option.bind (m_ref23_Number fuel (ByteArray.mk #[97]) (0:Int) (15:Int) (0:Int)) fun r7=>(ck ((List.length r1:Int)+(List.length ([(r4.1,r4.2.1,r4.2.2.1,r4.2.2.2.1,r4.2.2.2.2.1,r4.2.2.2.2.2),(r7.1,r7.2.1,r7.2.2.1,r7.2.2.2.1,r7.2.2.2.2.1,r7.2.2.2.2.2)]):Int)<=1099511627) (some (r1++([(r4.1,r4.2.1,r4.2.2.1,r4.2.2.2.1,r4.2.2.2.2.1,r4.2.2.2.2.2),(r7.1,r7.2.1,r7.2.2.1,r7.2.2.2.1,r7.2.2.2.2.1,r7.2.2.2.2.2)]))))))
theorem body57:HasBody Tryz.prog 57:=Tryz.call57
theorem t_ref37_Vars (fuel:Nat)  (r:(List (ByteArray×Int×Int×Int×Int×Int))) (h:m_ref37_Vars fuel  = some r):
  Meets Tryz.prog 57 #[] [] (fun x:Value=>x) (fun x l=>Ar EStI64I64I64I64I64p x r::l) (fun _ l=>l):=by
 refine Meets.of (vs:=[]) Tryz.func57 rfl Tryz.ntmps57 rfl fun c=> ?_
 unfold m_ref37_Vars at h
 refine J.seq<|J.region<|J.quiet (Y.assign rfl) rfl<|J.done<|J.thenN<|J.seq<|J.region ?_
 have h:=bnd h;obtain⟨r1,hr2,h⟩:=h
 refine J.loud (Loud.callL body86 (t_ref35_Vars fuel  r1 hr2) rfl .nil (fun _ _=>rfl)) rfl fun x3=> ?_
 have h:=bnd h;obtain⟨r4,hr5,h⟩:=h
 refine J.loud (Loud.callL body87 (t_ref23_Number fuel  r4 hr5) rfl .nil (fun _ _=>rfl)) rfl fun x6=> ?_
 have h:=bnd h;obtain⟨r7,hr8,h⟩:=h
 refine J.loud (Loud.callL body87 (t_ref23_Number fuel  r7 hr8) rfl .nil (fun _ _=>rfl)) rfl fun x9=>J.loud (Loud.buildS (e:=EStI64I64I64I64I64p) ([((r4.1,r4.2.1,r4.2.2.1,r4.2.2.2.1,r4.2.2.2.2.1,r4.2.2.2.2.2)),((r7.1,r7.2.1,r7.2.2.1,r7.2.2.2.1,r7.2.2.2.2.1,r7.2.2.2.2.2))]) [(0,Value.agg #[Value.string (r4.1),Value.int .i64 (r4.2.1),Value.int .i64 (r4.2.2.1),Value.int .i64 (r4.2.2.2.1),Value.int .i64 (r4.2.2.2.2.1),Value.int .i64 (r4.2.2.2.2.2)]),(1,Value.agg #[Value.string (r7.1),Value.int .i64 (r7.2.1),Value.int .i64 (r7.2.2.1),Value.int .i64 (r7.2.2.2.1),Value.int .i64 (r7.2.2.2.2.1),Value.int .i64 (r7.2.2.2.2.2)])] rfl rfl rfl rfl (fill_2_6 (Value.string (r4.1)) (Value.int .i64 (r4.2.1)) (Value.int .i64 (r4.2.2.1)) (Value.int .i64 (r4.2.2.2.1)) (Value.int .i64 (r4.2.2.2.2.1)) (Value.int .i64 (r4.2.2.2.2.2)) (Value.string (r7.1)) (Value.int .i64 (r7.2.1)) (Value.int .i64 (r7.2.2.1)) (Value.int .i64 (r7.2.2.2.1)) (Value.int .i64 (r7.2.2.2.2.1)) (Value.int .i64 (r7.2.2.2.2.2))) rfl rfl rfl) rfl fun u10=> ?_
 have h:=ck_some h;obtain⟨hc12,h⟩:=h
 refine J.loud (Loud.appendL 1 FStI64I64I64I64I64p rfl rfl rfl (Lent.ar (Lent.res 0 rfl) FStI64I64I64I64I64p) rfl rfl rfl rfl hc12 rfl) rfl fun u11=>J.quiet (Y.assign rfl) rfl<|J.done<|J.thenN<|J.ret ?_
 obtain rfl:=Option.some.inj h
 exact J.retG1 (u11) rfl rfl (RV.tmp rfl) (SubM.cons 1 rfl (SubM.nil)) LentAll.nil
end Go.Proofs.YtfbkplemadmbfaaGreatDoor
end
