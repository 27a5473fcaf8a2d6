/- The model of family.FromParents and the proof that the function meets it, by program (gen/xt.py). Conditions: none. -/
import Derived.Test.YtemhmmcakmidkaaX79
import Derived.Test.YtemhmmcakmidkaaX80
namespace Go.Proofs.Ytemhmmcakmidkaa
open Go.Sx

def family_FromParents_k2 (fuel : Nat) (p0 : List (Int)) (a8 : Unit) : Option ((List (Int) × (List (List (Int × Int)))) × Int) :=
  Option.bind (m_family_related fuel (List.length p0 : Int) (fun y0 y1 => m_family_FromParents_1 fuel y0 y1 p0)) fun r10 => (some (((r10.1, r10.2)), (0 : Int)))
def family_FromParents_k3 (a17 : Int) (ag16 : (Int) → Option ((List (Int) × (List (List (Int × Int)))) × Int)) (a22 : Bool) : Option ((List (Int) × (List (List (Int × Int)))) × Int) :=
  if a22 = true then (some (((([] : List Int), ([] : List (List (Int × Int))))), (2 : Int))) else (ag16 (wI .i64 (a17 + (1 : Int))))
def family_FromParents_s1 (fuel : Nat) (p0 : List (Int)) (a17 : Int) (ag16 : (Int) → Option ((List (Int) × (List (List (Int × Int)))) × Int)) : Option ((List (Int) × (List (List (Int × Int)))) × Int) :=
  if a17 < (List.length p0 : Int) then (ck (0 ≤ a17 ∧ a17 < (List.length p0 : Int)) (if (at' p0 a17) < (0 : Int) then (family_FromParents_k3 a17 ag16 (true)) else (ck (0 ≤ a17 ∧ a17 < (List.length p0 : Int)) (family_FromParents_k3 a17 ag16 (decide (a17 ≤ (at' p0 a17))))))) else (family_FromParents_k2 fuel p0 (()))
def family_FromParents_k1 (fuel : Nat) (p0 : List (Int)) (a5 : Bool) : Option ((List (Int) × (List (List (Int × Int)))) × Int) :=
  if a5 = true then (some (((([] : List Int), ([] : List (List (Int × Int))))), (2 : Int))) else (iter (family_FromParents_s1 fuel p0) fuel (1 : Int))
def m_family_FromParents (fuel : Nat) (p0 : List (Int)) : Option ((List (Int) × (List (List (Int × Int)))) × Int) :=
  if (List.length p0 : Int) < (1 : Int) then (family_FromParents_k1 fuel p0 (true)) else (if (24 : Int) < (List.length p0 : Int) then (family_FromParents_k1 fuel p0 (true)) else (ck (0 ≤ (0 : Int) ∧ (0 : Int) < (List.length p0 : Int)) (family_FromParents_k1 fuel p0 (decide ((at' p0 (0 : Int)) ≠ (-1 : Int))))))

theorem body30 : HasBody Try.prog 30 := Try.call30

set_option maxHeartbeats 4000000 in
set_option maxRecDepth 20000 in
theorem t_family_FromParents (fuel : Nat) {p0 : List (Int)} (v0 : Value) (r : (List (Int) × (List (List (Int × Int)))) × Int) (h : m_family_FromParents fuel p0 = some r) :
    Meets Try.prog 30 #[v0] [Sl RI64 v0 p0] (fun x : Value × Value × List Value => Value.tuple #[Value.agg #[x.1, x.2.1], Value.int .i64 (r.2)]) (fun x l => Ar EI64 x.1 r.1.1 :: Ar Enc.raw x.2.1 x.2.2 :: Rws EI64I64p x.2.2 r.1.2 :: l) (fun _ l => l) := by
  refine Meets.of (vs := [v0]) Try.func30 rfl Try.ntmps30 rfl fun c => ?_
  unfold m_family_FromParents at h
  refine J.seq ?_
  refine J.region ?_
  refine J.know (Know.one ((Lent.fact 0 rfl))) fun ho2 => ?_
  refine J.loud (Loud.box (cs := [v0]) rfl (by rw [one_cells ho2])) rfl fun b1 => ?_
  refine J.loud (Loud.alloc (cs := [Value.slice none 0 0, Value.slice none 0 0]) rfl rfl) rfl fun b3 => ?_
  refine J.quiet (Y.assign rfl) rfl ?_
  refine J.done ?_
  refine J.thenN ?_
  refine J.seq ?_
  refine J.region ?_
  refine J.quiet (Y.loadB 1 rfl rfl rfl rfl rfl) rfl ?_
  refine J.quiet (Y.lenS rfl (Lent.fact 0 rfl) rfl) rfl ?_
  refine J.quiet (Y.assign rfl) rfl ?_
  refine J.done ?_
  refine J.thenN ?_
  refine J.seq ?_
  refine J.seq ?_
  refine J.midI (A := Bool) (B := Unit) (fun a5 => family_FromParents_k1 fuel p0 a5 = some r) (fun a5 b6 => [(1, Value.pointer (some ⟨b1, 0, none⟩)), (2, Value.pointer (some ⟨b3, 0, none⟩)), (4, Value.int .i64 (List.length p0 : Int)), (19, Value.bool (a5))]) (fun a5 b6 => [Blk b3 [Value.slice none 0 0, Value.slice none 0 0] 26, Blk b1 [v0] 22]) (fun a5 b6 => [Sl RI64 v0 p0]) ?_ ?_
  · refine J.region ?_
    refine J.quiet (Y.move rfl) rfl ?_
    refine J.quiet (Y.lss rfl rfl) rfl ?_
    refine J.quiet (Y.move rfl) rfl ?_
    refine J.guardD (by exact rfl) (by exact rfl) (fun hp28 => ?_) (fun hp28 => ?_)
    · replace h := ifP hp28 h
      refine J.guardN rfl rfl rfl ?_
      refine J.guardN rfl rfl rfl ?_
      refine J.quiet (Y.pickT rfl rfl) rfl ?_
      refine J.quiet (Y.move rfl) rfl ?_
      refine J.guardN rfl rfl rfl ?_
      refine J.guardN rfl rfl rfl ?_
      refine J.guardN rfl rfl rfl ?_
      refine J.guardN rfl rfl rfl ?_
      refine J.quiet (Y.pickT rfl rfl) rfl ?_
      refine J.done ?_
      refine J.thenN ?_
      exact J.meetI (true) (()) h (by repeat (first | exact SubF.nil | refine SubF.cons rfl ?_)) (SubM.refl _) (LentAll.refl _ _)
    · replace h := ifN hp28 h
      refine J.guardY rfl (Y.move rfl) rfl ?_
      refine J.guardY rfl (Y.gtr rfl rfl) rfl ?_
      refine J.quiet (Y.pickF rfl rfl) rfl ?_
      refine J.quiet (Y.move rfl) rfl ?_
      refine J.guardD (by exact rfl) (by exact rfl) (fun hp29 => ?_) (fun hp29 => ?_)
      · replace h := ifP hp29 h
        refine J.guardN rfl rfl rfl ?_
        refine J.guardN rfl rfl rfl ?_
        refine J.guardN rfl rfl rfl ?_
        refine J.guardN rfl rfl rfl ?_
        refine J.quiet (Y.pickT rfl rfl) rfl ?_
        refine J.done ?_
        refine J.thenN ?_
        exact J.meetI (true) (()) h (by repeat (first | exact SubF.nil | refine SubF.cons rfl ?_)) (SubM.refl _) (LentAll.refl _ _)
      · replace h := ifN hp29 h
        refine J.guardY rfl (Y.loadB 1 rfl rfl rfl rfl rfl) rfl ?_
        replace h := ck_some h; obtain ⟨hc30, h⟩ := h
        refine J.guardY rfl (Y.indexS rfl rfl (Lent.fact 0 rfl) rfl rfl hc30) rfl ?_
        refine J.guardY rfl (Y.loadS0 rfl (Lent.fact 0 rfl) rfl rfl rfl RI64c0 hc30) rfl ?_
        refine J.guardY rfl (Y.neq rfl rfl) rfl ?_
        refine J.quiet (Y.pickF rfl rfl) rfl ?_
        refine J.done ?_
        refine J.thenN ?_
        exact J.meetI (decide ((at' p0 (0 : Int)) ≠ (-1 : Int))) (()) h (by repeat (first | exact SubF.nil | refine SubF.cons rfl ?_)) (SubM.refl _) (LentAll.refl _ _)
  · clear h
    intro a5 b6 h
    unfold family_FromParents_k1 at h
    refine J.cond (by exact rfl) (fun hp7 => ?_) (fun hp7 => ?_)
    · replace h := ifP hp7 h
      refine J.seq ?_
      refine J.region ?_
      refine J.quiet (Y.bld0 (r := Value.agg #[Value.slice none 0 0, Value.slice none 0 0]) (by intro w; simp [Instr.build, Instr.fill, cells_intV, cells_boolV, cells_sliceV, cells_ptrV, cells_strV, cells_funcV, cells_agg])) rfl ?_
      refine J.storeAll 0 (vs := [Value.slice none 0 0, Value.slice none 0 0]) rfl rfl rfl rfl rfl rfl ?_
      refine J.quiet (Y.assign rfl) rfl ?_
      refine J.done ?_
      refine J.thenN ?_
      refine J.ret ?_
      refine J.thenR ?_
      refine J.stp (Stp.nilAr EI64) ?_
      refine J.stp (Stp.nilAr Enc.raw) (J.stp (Stp.rowsNil EI64I64p) ?_)
      obtain rfl := Option.some.inj h
      exact J.retG2 ((Value.slice none 0 0), (Value.slice none 0 0), ([] : List Value)) rfl rfl (RV.cell 3 rfl rfl rfl rfl) (RV.tmp rfl) (SubM.cons 2 rfl (SubM.cons 1 rfl (SubM.cons 0 rfl (SubM.nil)))) LentAll.nil
    · replace h := ifBN hp7 h
      refine J.skip ?_
      refine J.thenN ?_
      refine J.seq ?_
      refine J.midI (A := Unit) (B := Unit) (fun a8 => family_FromParents_k2 fuel p0 a8 = some r) (fun a8 b9 => [(1, Value.pointer (some ⟨b1, 0, none⟩)), (2, Value.pointer (some ⟨b3, 0, none⟩)), (4, Value.int .i64 (List.length p0 : Int))]) (fun a8 b9 => [Blk b3 [Value.slice none 0 0, Value.slice none 0 0] 26, Blk b1 [v0] 22]) (fun a8 b9 => [Sl RI64 v0 p0]) ?_ ?_
      · refine J.seq ?_
        refine J.region ?_
        refine J.quiet (Y.assign rfl) rfl ?_
        refine J.done ?_
        refine J.thenN ?_
        refine J.block ?_
        refine J.loopI (A := Int) (B := Unit) (family_FromParents_s1 fuel p0) (fun a17 b18 => [(1, Value.pointer (some ⟨b1, 0, none⟩)), (2, Value.pointer (some ⟨b3, 0, none⟩)), (4, Value.int .i64 (List.length p0 : Int)), (5, Value.int .i64 (a17))]) (fun a17 b18 => [Blk b3 [Value.slice none 0 0, Value.slice none 0 0] 26, Blk b1 [v0] 22]) (fun a17 b18 => [Sl RI64 v0 p0]) (1 : Int) (()) h (by repeat (first | exact SubF.nil | refine SubF.cons rfl ?_)) (SubM.refl _) (LentAll.refl _ _) ?_
        clear h
        intro k19 a17 b18 h
        unfold family_FromParents_s1 at h
        refine J.seq ?_
        refine J.seq ?_
        refine J.region ?_
        refine J.quiet (Y.move rfl) rfl ?_
        refine J.quiet (Y.move rfl) rfl ?_
        refine J.quiet (Y.lss rfl rfl) rfl ?_
        refine J.done ?_
        refine J.thenN ?_
        refine J.condD (by exact rfl) (fun hp20 => ?_) (fun hp20 => ?_)
        · replace h := ifP hp20 h
          refine J.skip ?_
          refine J.thenN ?_
          refine J.seq ?_
          refine J.block ?_
          refine J.seq ?_
          refine J.midI (A := Bool) (B := Unit) (fun a22 => family_FromParents_k3 a17 (iter (family_FromParents_s1 fuel p0) k19) a22 = some r) (fun a22 b23 => [(1, Value.pointer (some ⟨b1, 0, none⟩)), (2, Value.pointer (some ⟨b3, 0, none⟩)), (4, Value.int .i64 (List.length p0 : Int)), (5, Value.int .i64 (a17)), (38, Value.bool (a22))]) (fun a22 b23 => [Blk b3 [Value.slice none 0 0, Value.slice none 0 0] 26, Blk b1 [v0] 22]) (fun a22 b23 => [Sl RI64 v0 p0]) ?_ ?_
          · refine J.region ?_
            refine J.quiet (Y.loadB 1 rfl rfl rfl rfl rfl) rfl ?_
            refine J.quiet (Y.move rfl) rfl ?_
            replace h := ck_some h; obtain ⟨hc25, h⟩ := h
            refine J.quiet (Y.indexS rfl rfl (Lent.fact 0 rfl) rfl rfl hc25) rfl ?_
            refine J.quiet (Y.loadS0 rfl (Lent.fact 0 rfl) rfl rfl rfl RI64c0 hc25) rfl ?_
            refine J.quiet (Y.lss rfl rfl) rfl ?_
            refine J.quiet (Y.move rfl) rfl ?_
            refine J.guardD (by exact rfl) (by exact rfl) (fun hp26 => ?_) (fun hp26 => ?_)
            · replace h := ifP hp26 h
              refine J.guardN rfl rfl rfl ?_
              refine J.guardN rfl rfl rfl ?_
              refine J.guardN rfl rfl rfl ?_
              refine J.guardN rfl rfl rfl ?_
              refine J.guardN rfl rfl rfl ?_
              refine J.guardN rfl rfl rfl ?_
              refine J.quiet (Y.pickT rfl rfl) rfl ?_
              refine J.done ?_
              refine J.thenN ?_
              exact J.meetI (true) (()) h (by repeat (first | exact SubF.nil | refine SubF.cons rfl ?_)) (SubM.refl _) (LentAll.refl _ _)
            · replace h := ifN hp26 h
              refine J.guardY rfl (Y.loadB 1 rfl rfl rfl rfl rfl) rfl ?_
              refine J.guardY rfl (Y.move rfl) rfl ?_
              replace h := ck_some h; obtain ⟨hc27, h⟩ := h
              refine J.guardY rfl (Y.indexS rfl rfl (Lent.fact 0 rfl) rfl rfl hc27) rfl ?_
              refine J.guardY rfl (Y.loadS0 rfl (Lent.fact 0 rfl) rfl rfl rfl RI64c0 hc27) rfl ?_
              refine J.guardY rfl (Y.move rfl) rfl ?_
              refine J.guardY rfl (Y.geq rfl rfl) rfl ?_
              refine J.quiet (Y.pickF rfl rfl) rfl ?_
              refine J.done ?_
              refine J.thenN ?_
              exact J.meetI (decide (a17 ≤ (at' p0 a17))) (()) h (by repeat (first | exact SubF.nil | refine SubF.cons rfl ?_)) (SubM.refl _) (LentAll.refl _ _)
          · clear h
            intro a22 b23 h
            unfold family_FromParents_k3 at h
            refine J.cond (by exact rfl) (fun hp24 => ?_) (fun hp24 => ?_)
            · replace h := ifP hp24 h
              refine J.seq ?_
              refine J.region ?_
              refine J.quiet (Y.bld0 (r := Value.agg #[Value.slice none 0 0, Value.slice none 0 0]) (by intro w; simp [Instr.build, Instr.fill, cells_intV, cells_boolV, cells_sliceV, cells_ptrV, cells_strV, cells_funcV, cells_agg])) rfl ?_
              refine J.storeAll 0 (vs := [Value.slice none 0 0, Value.slice none 0 0]) rfl rfl rfl rfl rfl rfl ?_
              refine J.quiet (Y.assign rfl) rfl ?_
              refine J.done ?_
              refine J.thenN ?_
              refine J.ret ?_
              refine J.inR ?_
              refine J.thenR ?_
              refine J.thenR ?_
              refine J.inR ?_
              refine J.thenR ?_
              refine J.stp (Stp.nilAr EI64) ?_
              refine J.stp (Stp.nilAr Enc.raw) (J.stp (Stp.rowsNil EI64I64p) ?_)
              obtain rfl := Option.some.inj h
              exact J.retG2 ((Value.slice none 0 0), (Value.slice none 0 0), ([] : List Value)) rfl rfl (RV.cell 3 rfl rfl rfl rfl) (RV.tmp rfl) (SubM.cons 2 rfl (SubM.cons 1 rfl (SubM.cons 0 rfl (SubM.nil)))) LentAll.nil
            · replace h := ifBN hp24 h
              refine J.skip ?_
              refine J.inN ?_
              refine J.thenN ?_
              refine J.region ?_
              refine J.quiet (Y.move rfl) rfl ?_
              refine J.quiet (Y.addW rfl rfl) rfl ?_
              refine J.quiet (Y.assign rfl) rfl ?_
              refine J.done ?_
              refine J.thenN ?_
              exact J.againI (wI .i64 (a17 + (1 : Int))) (()) h (by repeat (first | exact SubF.nil | refine SubF.cons rfl ?_)) (SubM.refl _) (LentAll.refl _ _)
        · replace h := ifN hp20 h
          refine J.exit ?_
          refine J.thenX ?_
          refine J.thenX ?_
          refine J.inX ?_
          refine J.thenN ?_
          exact J.meetI (()) (()) h (by repeat (first | exact SubF.nil | refine SubF.cons rfl ?_)) (SubM.refl _) (LentAll.refl _ _)
      · clear h
        intro a8 b9 h
        unfold family_FromParents_k2 at h
        refine J.seq ?_
        refine J.region ?_
        refine J.quiet (Y.move rfl) rfl ?_
        refine J.quiet (Y.makeFunc (cs := [.tmp 1]) (vs := [Value.pointer (some ⟨b1, 0, none⟩)]) rfl) rfl ?_
        replace h := bnd h; obtain ⟨r10, hr11, h⟩ := h
        refine J.loud (Loud.callL body79 (t_family_related fuel 80 [Value.pointer (some ⟨b1, 0, none⟩)] [Blk b1 [v0] 22, Sl RI64 v0 p0] body80 (fun y0 y1 r h => t_family_FromParents_1 fuel b1 v0 r h) r10 hr11) rfl (LentAll.cons (Lent.res 1 rfl) (LentAll.cons (Lent.fact 0 rfl) (LentAll.nil))) (fun _ _ => rfl)) rfl fun x12 => ?_
        refine J.know (Know.one ((Lent.ar (Lent.res 0 rfl) FI64))) fun ho13 => ?_
        refine J.know (Know.one (Lent.sl (Lent.rows (i := 1) (j := 2) rfl rfl FI64I64p))) fun ho14 => ?_
        refine J.storeAll 3 (vs := [x12.1, x12.2.1]) rfl rfl (all1 ho13 (all1 ho14 rfl)) rfl rfl rfl ?_
        refine J.quiet (Y.assign rfl) rfl ?_
        refine J.done ?_
        refine J.thenN ?_
        refine J.ret ?_
        obtain rfl := Option.some.inj h
        exact J.retG2 (x12.1, x12.2.1, x12.2.2) rfl rfl (RV.cell 3 rfl rfl rfl rfl) (RV.tmp rfl) (SubM.cons 0 rfl (SubM.cons 0 rfl (SubM.cons 0 rfl (SubM.nil)))) LentAll.nil

end Go.Proofs.Ytemhmmcakmidkaa
