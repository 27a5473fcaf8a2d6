/- Models of functions with their proofs, by program (gen/xt.py), and plain laws, in one text. Conditions: none. -/
import Derived.Test.YtemhmmcakmidkaaXp
import Derived.Test.YtemhmmcakmidkaaZFRe1
import Derived.KernelRfl
section
set_option linter.unusedVariables false
set_option linter.unusedSimpArgs false
namespace Go.Proofs.Ytemhmmcakmidkaa
open Go.Sx
set_option linter.unusedVariables false
set_option linter.unusedSimpArgs false
def family_permutation_k1  (a4 : Unit) : Option (Bool) :=
  some (true)
def family_permutation_k2 (p0 : List (Int)) (a9 : Int × List (Bool)) (ag8 : (Int × List (Bool)) → Option (Bool)) (a15 : Bool) : Option (Bool) :=
  if a15 = true then (some (false)) else (ck (0 ≤ (at' p0 a9.1) ∧ (at' p0 a9.1) < (List.length a9.2 : Int)) (ag8 ((wI .i64 (a9.1 + (1 : Int))), (List.set a9.2 (Int.toNat (at' p0 a9.1)) true))))
def family_permutation_s1 (p0 : List (Int)) (p1 : Int) (a9 : Int × List (Bool)) (ag8 : (Int × List (Bool)) → Option (Bool)) : Option (Bool) :=
  if a9.1 < (List.length p0 : Int) then (ck (0 ≤ a9.1 ∧ a9.1 < (List.length p0 : Int)) (if (at' p0 a9.1) < (0 : Int) then (family_permutation_k2 p0 a9 ag8 (true)) else (if p1 ≤ (at' p0 a9.1) then (family_permutation_k2 p0 a9 ag8 (true)) else (ck (0 ≤ (at' p0 a9.1) ∧ (at' p0 a9.1) < (List.length a9.2 : Int)) (family_permutation_k2 p0 a9 ag8 ((at' a9.2 (at' p0 a9.1)))))))) else (family_permutation_k1  (()))
def m_family_permutation (fuel : Nat) (p0 : List (Int)) (p1 : Int) : Option (Bool) :=
  if (List.length p0 : Int) ≠ p1 then (some (false)) else (ck (0 ≤ p1 ∧ p1 ≤ 1099511627) (iter (family_permutation_s1 p0 p1) fuel ((0 : Int), (List.replicate (Int.toNat p1) false))))

theorem body86 : HasBody Try.prog 86 := Try.call86

set_option maxHeartbeats 4000000 in
set_option maxRecDepth 20000 in
theorem t_family_permutation (fuel : Nat) {p0 : List (Int)} {p1 : Int} (v0 : Value) (r : Bool) (h : m_family_permutation fuel p0 p1 = some r) :
    Meets Try.prog 86 #[v0, Value.int .i64 (p1)] [Sl RI64 v0 p0] (fun x : Unit => Value.bool (r)) (fun x l => l) (fun _ l => l) := by
  refine Meets.of (vs := [v0, Value.int .i64 (p1)]) Try.func86 rfl Try.ntmps86 rfl fun c => ?_
  unfold m_family_permutation at h
  refine J.seq ?_
  refine J.region ?_
  refine J.quiet (Y.assign rfl) rfl ?_
  refine J.done ?_
  refine J.thenN ?_
  refine J.seq ?_
  refine J.seq ?_
  refine J.region ?_
  refine J.quiet (Y.move rfl) rfl ?_
  refine J.quiet (Y.lenS rfl (Lent.fact 0 rfl) rfl) rfl ?_
  refine J.quiet (Y.move rfl) rfl ?_
  refine J.quiet (Y.neq rfl rfl) rfl ?_
  refine J.done ?_
  refine J.thenN ?_
  refine J.condD (by exact rfl) (fun hp1 => ?_) (fun hp1 => ?_)
  · replace h := ifP hp1 h
    refine J.seq ?_
    refine J.region ?_
    refine J.quiet (Y.assign rfl) rfl ?_
    refine J.done ?_
    refine J.thenN ?_
    refine J.ret ?_
    refine J.thenR ?_
    obtain rfl := Option.some.inj h
    exact J.retG1 (()) rfl rfl (RV.tmp rfl) (SubM.refl _) LentAll.nil
  · replace h := ifN hp1 h
    refine J.skip ?_
    refine J.thenN ?_
    refine J.seq ?_
    refine J.region ?_
    refine J.quiet (Y.move rfl) rfl ?_
    replace h := ck_some h; obtain ⟨hc2, h⟩ := h
    refine J.loud (Loud.makeS (e := EBo) false rfl rfl rfl rfl hc2 rfl rfl rfl) rfl fun u3 => ?_
    refine J.quiet (Y.assign rfl) rfl ?_
    refine J.done ?_
    refine J.thenN ?_
    refine J.seq ?_
    refine J.midI (A := Unit) (B := Unit) (fun a4 => family_permutation_k1  a4 = some r) (fun a4 b5 => []) (fun a4 b5 => []) (fun a4 b5 => [Sl RI64 v0 p0]) ?_ ?_
    · refine J.seq ?_
      refine J.region ?_
      refine J.quiet (Y.move rfl) rfl ?_
      refine J.quiet (Y.lenS rfl (Lent.fact 0 rfl) rfl) rfl ?_
      refine J.quiet (Y.move rfl) rfl ?_
      refine J.done ?_
      refine J.thenN ?_
      refine J.block ?_
      refine J.loopI (A := Int × List (Bool)) (B := Unit) (family_permutation_s1 p0 p1) (fun a9 b10 => [(1, Value.int .i64 (p1)), (5, u3), (14, v0), (15, Value.int .i64 (List.length p0 : Int)), (16, Value.int .i64 (a9.1))]) (fun a9 b10 => [Ar EBo u3 a9.2]) (fun a9 b10 => [Sl RI64 v0 p0]) ((0 : Int), (List.replicate (Int.toNat p1) false)) (()) h (by repeat (first | exact SubF.nil | refine SubF.cons rfl ?_)) (SubM.refl _) (LentAll.refl _ _) ?_
      clear h
      intro k11 a9 b10 h
      unfold family_permutation_s1 at h
      refine J.seq ?_
      refine J.region ?_
      refine J.quiet (Y.lss rfl rfl) rfl ?_
      refine J.done ?_
      refine J.thenN ?_
      refine J.seq ?_
      refine J.condD (by exact rfl) (fun hp12 => ?_) (fun hp12 => ?_)
      · replace h := ifP hp12 h
        refine J.skip ?_
        refine J.thenN ?_
        refine J.seq ?_
        refine J.block ?_
        refine J.seq ?_
        refine J.region ?_
        replace h := ck_some h; obtain ⟨hc13, h⟩ := h
        refine J.quiet (Y.indexS rfl rfl (Lent.fact 0 rfl) rfl rfl hc13) rfl ?_
        refine J.quiet (Y.loadS0 rfl (Lent.fact 0 rfl) rfl rfl rfl RI64c0 hc13) rfl ?_
        refine J.quiet (Y.assign rfl) rfl ?_
        refine J.done ?_
        refine J.thenN ?_
        refine J.seq ?_
        refine J.seq ?_
        refine J.midI (A := Bool) (B := Unit) (fun a15 => family_permutation_k2 p0 a9 (iter (family_permutation_s1 p0 p1) k11) a15 = some r) (fun a15 b16 => [(1, Value.int .i64 (p1)), (5, u3), (7, Value.int .i64 (at' p0 a9.1)), (14, v0), (15, Value.int .i64 (List.length p0 : Int)), (16, Value.int .i64 (a9.1)), (32, Value.bool (a15))]) (fun a15 b16 => [Ar EBo u3 a9.2]) (fun a15 b16 => [Sl RI64 v0 p0]) ?_ ?_
        · refine J.region ?_
          refine J.quiet (Y.move rfl) rfl ?_
          refine J.quiet (Y.lss rfl rfl) rfl ?_
          refine J.quiet (Y.move rfl) rfl ?_
          refine J.guardD (by exact rfl) (by exact rfl) (fun hp19 => ?_) (fun hp19 => ?_)
          · replace h := ifP hp19 h
            refine J.guardN rfl rfl rfl ?_
            refine J.guardN rfl rfl rfl ?_
            refine J.guardN rfl rfl rfl ?_
            refine J.quiet (Y.pickT rfl rfl) rfl ?_
            refine J.quiet (Y.move rfl) rfl ?_
            refine J.guardN rfl rfl rfl ?_
            refine J.guardN rfl rfl rfl ?_
            refine J.guardN rfl rfl rfl ?_
            refine J.guardN rfl rfl rfl ?_
            refine J.quiet (Y.pickT rfl rfl) rfl ?_
            refine J.done ?_
            refine J.thenN ?_
            exact J.meetI (true) (()) h (by repeat (first | exact SubF.nil | refine SubF.cons rfl ?_)) (SubM.refl _) (LentAll.refl _ _)
          · replace h := ifN hp19 h
            refine J.guardY rfl (Y.move rfl) rfl ?_
            refine J.guardY rfl (Y.move rfl) rfl ?_
            refine J.guardY rfl (Y.geq rfl rfl) rfl ?_
            refine J.quiet (Y.pickF rfl rfl) rfl ?_
            refine J.quiet (Y.move rfl) rfl ?_
            refine J.guardD (by exact rfl) (by exact rfl) (fun hp20 => ?_) (fun hp20 => ?_)
            · replace h := ifP hp20 h
              refine J.guardN rfl rfl rfl ?_
              refine J.guardN rfl rfl rfl ?_
              refine J.guardN rfl rfl rfl ?_
              refine J.guardN rfl rfl rfl ?_
              refine J.quiet (Y.pickT rfl rfl) rfl ?_
              refine J.done ?_
              refine J.thenN ?_
              exact J.meetI (true) (()) h (by repeat (first | exact SubF.nil | refine SubF.cons rfl ?_)) (SubM.refl _) (LentAll.refl _ _)
            · replace h := ifN hp20 h
              refine J.guardY rfl (Y.move rfl) rfl ?_
              refine J.guardY rfl (Y.move rfl) rfl ?_
              replace h := ck_some h; obtain ⟨hc21, h⟩ := h
              refine J.guardY rfl (Y.indexS rfl rfl (Lent.ar (Lent.res 0 rfl) FBo) rfl rfl hc21) rfl ?_
              refine J.guardY rfl (Y.loadS0 rfl (Lent.ar (Lent.res 0 rfl) FBo) rfl rfl rfl RBoc0 hc21) rfl ?_
              refine J.quiet (Y.pickF rfl rfl) rfl ?_
              refine J.done ?_
              refine J.thenN ?_
              exact J.meetI ((at' a9.2 (at' p0 a9.1))) (()) h (by repeat (first | exact SubF.nil | refine SubF.cons rfl ?_)) (SubM.refl _) (LentAll.refl _ _)
        · clear h
          intro a15 b16 h
          unfold family_permutation_k2 at h
          refine J.cond (by exact rfl) (fun hp17 => ?_) (fun hp17 => ?_)
          · replace h := ifP hp17 h
            refine J.seq ?_
            refine J.region ?_
            refine J.quiet (Y.assign rfl) rfl ?_
            refine J.done ?_
            refine J.thenN ?_
            refine J.ret ?_
            refine J.thenR ?_
            refine J.inR ?_
            refine J.thenR ?_
            refine J.thenR ?_
            refine J.inR ?_
            refine J.thenR ?_
            obtain rfl := Option.some.inj h
            exact J.retG1 (()) rfl rfl (RV.tmp rfl) (SubM.nil) LentAll.nil
          · replace h := ifBN hp17 h
            refine J.skip ?_
            refine J.thenN ?_
            refine J.region ?_
            refine J.quiet (Y.move rfl) rfl ?_
            refine J.quiet (Y.move rfl) rfl ?_
            replace h := ck_some h; obtain ⟨hc18, h⟩ := h
            refine J.quiet (Y.indexS rfl rfl (Lent.ar (Lent.res 0 rfl) FBo) rfl rfl hc18) rfl ?_
            refine J.storeS 0 true hc18 rfl rfl rfl rfl rfl rfl rfl ?_
            refine J.done ?_
            refine J.inN ?_
            refine J.thenN ?_
            refine J.region ?_
            refine J.quiet (Y.addW rfl rfl) rfl ?_
            refine J.quiet (Y.move rfl) rfl ?_
            refine J.done ?_
            refine J.thenN ?_
            exact J.againI ((wI .i64 (a9.1 + (1 : Int))), (List.set a9.2 (Int.toNat (at' p0 a9.1)) true)) (()) h (by repeat (first | exact SubF.nil | refine SubF.cons rfl ?_)) (SubM.refl _) (LentAll.refl _ _)
      · replace h := ifN hp12 h
        refine J.exit ?_
        refine J.thenX ?_
        refine J.thenX ?_
        refine J.inX ?_
        refine J.thenN ?_
        exact J.meetI (()) (()) h (by repeat (first | exact SubF.nil | refine SubF.cons rfl ?_)) (SubM.nil) (LentAll.refl _ _)
    · clear h
      intro a4 b5 h
      unfold family_permutation_k1 at h
      refine J.seq ?_
      refine J.region ?_
      refine J.quiet (Y.assign rfl) rfl ?_
      refine J.done ?_
      refine J.thenN ?_
      refine J.ret ?_
      obtain rfl := Option.some.inj h
      exact J.retG1 (()) rfl rfl (RV.tmp rfl) (SubM.refl _) LentAll.nil

end Go.Proofs.Ytemhmmcakmidkaa
end
section
set_option linter.unusedVariables false
set_option linter.unusedSimpArgs false
namespace Go.Proofs.Ytemhmmcakmidkaa
open Go.Sx
set_option linter.unusedVariables false
set_option linter.unusedSimpArgs false
def family_Relabel_k1  (a20 : List (Int) × (List (List (Int × Int)))) : Option ((List (Int) × (List (List (Int × Int)))) × Int) :=
  some (((a20.1, a20.2)), (0 : Int))
def family_Relabel_k2 (p0 : List (Int) × (List (List (Int × Int)))) (p1 : List (Int)) (a29 : Int × List (Int) × (List (List (Int × Int)))) (ag28 : (Int × List (Int) × (List (List (Int × Int)))) → Option ((List (Int) × (List (List (Int × Int)))) × Int)) (a35 : (List (List (Int × Int)))) : Option ((List (Int) × (List (List (Int × Int)))) × Int) :=
  ag28 ((wI .i64 (a29.1 + (1 : Int))), (List.set a29.2.1 (Int.toNat (at' p1 a29.1)) (at' p0.1 a29.1)), a35)
def family_Relabel_s2 (p0 : List (Int) × (List (List (Int × Int)))) (p1 : List (Int)) (a29 : Int × List (Int) × (List (List (Int × Int)))) (ag28 : (Int × List (Int) × (List (List (Int × Int)))) → Option ((List (Int) × (List (List (Int × Int)))) × Int)) (a45 : Int × (List (List (Int × Int)))) (ag44 : (Int × (List (List (Int × Int)))) → Option ((List (Int) × (List (List (Int × Int)))) × Int)) : Option ((List (Int) × (List (List (Int × Int)))) × Int) :=
  if a45.1 < (List.length (at' p0.2 a29.1) : Int) then (ck (0 ≤ a45.1 ∧ a45.1 < (List.length (at' p0.2 a29.1) : Int)) (ck (0 ≤ a29.1 ∧ a29.1 < (List.length p1 : Int)) (ck (0 ≤ a29.1 ∧ a29.1 < (List.length p1 : Int)) (ck (0 ≤ (at' p1 a29.1) ∧ (at' p1 a29.1) < (List.length a45.2 : Int)) (ck (0 ≤ ((at' (at' p0.2 a29.1) a45.1).1) ∧ ((at' (at' p0.2 a29.1) a45.1).1) < (List.length p1 : Int)) (ck ((List.length (at' a45.2 (at' p1 a29.1)) : Int) + (List.length ([ ((at' p1 ((at' (at' p0.2 a29.1) a45.1).1)), ((at' (at' p0.2 a29.1) a45.1).2))]) : Int) ≤ 1099511627) (ck (0 ≤ (at' p1 a29.1) ∧ (at' p1 a29.1) < (List.length (List.set a45.2 (Int.toNat (at' p1 a29.1)) ((at' a45.2 (at' p1 a29.1)) ++ ([ ((at' p1 ((at' (at' p0.2 a29.1) a45.1).1)), ((at' (at' p0.2 a29.1) a45.1).2))]))) : Int)) (ag44 ((wI .i64 (a45.1 + (1 : Int))), (List.set a45.2 (Int.toNat (at' p1 a29.1)) ((at' a45.2 (at' p1 a29.1)) ++ ([ ((at' p1 ((at' (at' p0.2 a29.1) a45.1).1)), ((at' (at' p0.2 a29.1) a45.1).2))])))))))))))) else (family_Relabel_k2 p0 p1 a29 ag28 (a45.2))
def family_Relabel_s1 (fuel : Nat) (p0 : List (Int) × (List (List (Int × Int)))) (p1 : List (Int)) (a29 : Int × List (Int) × (List (List (Int × Int)))) (ag28 : (Int × List (Int) × (List (List (Int × Int)))) → Option ((List (Int) × (List (List (Int × Int)))) × Int)) : Option ((List (Int) × (List (List (Int × Int)))) × Int) :=
  if a29.1 < (List.length p0.2 : Int) then (ck (0 ≤ a29.1 ∧ a29.1 < (List.length p0.2 : Int)) (ck (0 ≤ a29.1 ∧ a29.1 < (List.length p1 : Int)) (ck (0 ≤ a29.1 ∧ a29.1 < (List.length p0.1 : Int)) (ck (0 ≤ (at' p1 a29.1) ∧ (at' p1 a29.1) < (List.length a29.2.1 : Int)) (iter (family_Relabel_s2 p0 p1 a29 ag28) fuel ((0 : Int), a29.2.2)))))) else (family_Relabel_k1  (a29.2.1, a29.2.2))
def m_family_Relabel (fuel : Nat) (p0 : List (Int) × (List (List (Int × Int)))) (p1 : List (Int)) : Option ((List (Int) × (List (List (Int × Int)))) × Int) :=
  Option.bind (m_graph_Valid fuel ((p0.1, p0.2))) fun r3 => (if (!r3) = true then (some (((([] : List Int), ([] : List (List (Int × Int))))), (1 : Int))) else (Option.bind (m_family_permutation fuel p1 (List.length p0.1 : Int)) fun r7 => (if (!r7) = true then (some (((([] : List Int), ([] : List (List (Int × Int))))), (2 : Int))) else (Option.bind (m_family_empty fuel (List.length p0.1 : Int)) fun r11 => (iter (family_Relabel_s1 fuel p0 p1) fuel ((0 : Int), r11.1, r11.2))))))

theorem body47 : HasBody Try.prog 47 := Try.call47

set_option maxHeartbeats 4000000 in
set_option maxRecDepth 20000 in
theorem t_family_Relabel (fuel : Nat) {p0 : List (Int) × (List (List (Int × Int)))} {p1 : List (Int)} (v0 : Value)  (v1 : Value)  (z2 : List (Value × List (Int × Int)))  (v3 : Value) (r : (List (Int) × (List (List (Int × Int)))) × Int) (h : m_family_Relabel fuel p0 p1 = some r) :
    Meets Try.prog 47 #[Value.agg #[v0, v1], v3] [Sl RI64 v0 p0.1, S2 RI64I64p v1 z2 p0.2, Sl RI64 v3 p1] (fun x : Value × Value × List Value => Value.tuple #[Value.agg #[x.1, x.2.1], Value.int .i64 (r.2)]) (fun x l => Ar EI64 x.1 r.1.1 :: Ar Enc.raw x.2.1 x.2.2 :: Rws EI64I64p x.2.2 r.1.2 :: l) (fun _ l => l) := by
  refine Meets.of (vs := [Value.agg #[v0, v1], v3]) Try.func47 rfl Try.ntmps47 rfl fun c => ?_
  unfold m_family_Relabel at h
  refine J.seq ?_
  refine J.region ?_
  refine J.loud (Loud.box (cs := [v0, v1]) rfl rfl) rfl fun b1 => ?_
  refine J.loud (Loud.alloc (cs := [Value.slice none 0 0, Value.slice none 0 0]) rfl rfl) rfl fun b2 => ?_
  refine J.quiet (Y.assign rfl) rfl ?_
  refine J.done ?_
  refine J.thenN ?_
  refine J.seq ?_
  refine J.seq ?_
  refine J.region ?_
  refine J.quiet (Y.loadBAll 1 rfl rfl rfl rfl) rfl ?_
  replace h := bnd h; obtain ⟨r3, hr4, h⟩ := h
  refine J.loud (Loud.callL body64 (t_graph_Valid fuel v0 v1 z2 r3 hr4) rfl (LentAll.cons (Lent.fact 0 rfl) (LentAll.cons (Lent.fact 1 rfl) (LentAll.nil))) (fun _ _ => rfl)) rfl fun x5 => ?_
  refine J.quiet (Y.not rfl) rfl ?_
  refine J.done ?_
  refine J.thenN ?_
  refine J.cond (by exact rfl) (fun hp6 => ?_) (fun hp6 => ?_)
  · replace h := ifP hp6 h
    refine J.seq ?_
    refine J.region ?_
    refine J.quiet (Y.bld0 (r := Value.agg #[Value.slice none 0 0, Value.slice none 0 0]) (by intro w; simp [Instr.build, Instr.fill, cells_intV, cells_boolV, cells_sliceV, cells_ptrV, cells_strV, cells_funcV, cells_agg])) rfl ?_
    refine J.storeAll 0 (vs := [Value.slice none 0 0, Value.slice none 0 0]) rfl rfl rfl rfl rfl rfl ?_
    refine J.quiet (Y.assign rfl) rfl ?_
    refine J.done ?_
    refine J.thenN ?_
    refine J.ret ?_
    refine J.thenR ?_
    refine J.stp (Stp.nilAr EI64) ?_
    refine J.stp (Stp.nilAr Enc.raw) (J.stp (Stp.rowsNil EI64I64p) ?_)
    obtain rfl := Option.some.inj h
    exact J.retG2 ((Value.slice none 0 0), (Value.slice none 0 0), ([] : List Value)) rfl rfl (RV.cell 3 rfl rfl rfl rfl) (RV.tmp rfl) (SubM.cons 2 rfl (SubM.cons 1 rfl (SubM.cons 0 rfl (SubM.nil)))) LentAll.nil
  · replace h := ifBN hp6 h
    refine J.skip ?_
    refine J.thenN ?_
    refine J.seq ?_
    refine J.seq ?_
    refine J.region ?_
    refine J.quiet (Y.move rfl) rfl ?_
    refine J.quiet (Y.fieldB rfl rfl rfl rfl rfl) rfl ?_
    refine J.quiet (Y.loadB 1 rfl rfl rfl rfl rfl) rfl ?_
    refine J.quiet (Y.lenS rfl (Lent.fact 0 rfl) rfl) rfl ?_
    replace h := bnd h; obtain ⟨r7, hr8, h⟩ := h
    refine J.loud (Loud.callL body86 (t_family_permutation fuel v3 r7 hr8) rfl (LentAll.cons (Lent.fact 2 rfl) (LentAll.nil)) (fun _ _ => rfl)) rfl fun x9 => ?_
    refine J.quiet (Y.not rfl) rfl ?_
    refine J.done ?_
    refine J.thenN ?_
    refine J.cond (by exact rfl) (fun hp10 => ?_) (fun hp10 => ?_)
    · replace h := ifP hp10 h
      refine J.seq ?_
      refine J.region ?_
      refine J.quiet (Y.bld0 (r := Value.agg #[Value.slice none 0 0, Value.slice none 0 0]) (by intro w; simp [Instr.build, Instr.fill, cells_intV, cells_boolV, cells_sliceV, cells_ptrV, cells_strV, cells_funcV, cells_agg])) rfl ?_
      refine J.storeAll 0 (vs := [Value.slice none 0 0, Value.slice none 0 0]) rfl rfl rfl rfl rfl rfl ?_
      refine J.quiet (Y.assign rfl) rfl ?_
      refine J.done ?_
      refine J.thenN ?_
      refine J.ret ?_
      refine J.thenR ?_
      refine J.stp (Stp.nilAr EI64) ?_
      refine J.stp (Stp.nilAr Enc.raw) (J.stp (Stp.rowsNil EI64I64p) ?_)
      obtain rfl := Option.some.inj h
      exact J.retG2 ((Value.slice none 0 0), (Value.slice none 0 0), ([] : List Value)) rfl rfl (RV.cell 3 rfl rfl rfl rfl) (RV.tmp rfl) (SubM.cons 2 rfl (SubM.cons 1 rfl (SubM.cons 0 rfl (SubM.nil)))) LentAll.nil
    · replace h := ifBN hp10 h
      refine J.skip ?_
      refine J.thenN ?_
      refine J.seq ?_
      refine J.region ?_
      refine J.quiet (Y.fieldB rfl rfl rfl rfl rfl) rfl ?_
      refine J.quiet (Y.loadB 1 rfl rfl rfl rfl rfl) rfl ?_
      refine J.quiet (Y.lenS rfl (Lent.fact 0 rfl) rfl) rfl ?_
      replace h := bnd h; obtain ⟨r11, hr12, h⟩ := h
      refine J.loud (Loud.callL body71 (t_family_empty fuel  r11 hr12) rfl (LentAll.nil) (fun _ _ => rfl)) rfl fun x13 => ?_
      refine J.loud (Loud.alloc (cs := [Value.slice none 0 0, Value.slice none 0 0]) rfl rfl) rfl fun b14 => ?_
      refine J.know (Know.one ((Lent.ar (Lent.res 1 rfl) FI64))) fun ho15 => ?_
      refine J.know (Know.one (Lent.sl (Lent.rows (i := 2) (j := 3) rfl rfl FI64I64p))) fun ho16 => ?_
      refine J.storeAll 0 (vs := [x13.1, x13.2.1]) rfl rfl (all1 ho15 (all1 ho16 rfl)) rfl rfl rfl ?_
      refine J.done ?_
      refine J.thenN ?_
      refine J.seq ?_
      refine J.midI (A := List (Int) × (List (List (Int × Int)))) (B := List Value) (fun a20 => family_Relabel_k1  a20 = some r) (fun a20 b21 => [(4, Value.pointer (some ⟨b2, 0, none⟩)), (6, Value.pointer (some ⟨b14, 0, none⟩))]) (fun a20 b21 => [Blk b14 [x13.1, x13.2.1] 26, Ar EI64 x13.1 a20.1, Ar Enc.raw x13.2.1 b21, Rws EI64I64p b21 a20.2, Blk b2 [Value.slice none 0 0, Value.slice none 0 0] 26]) (fun a20 b21 => [Sl RI64 v0 p0.1, S2 RI64I64p v1 z2 p0.2, Sl RI64 v3 p1]) ?_ ?_
      · refine J.seq ?_
        refine J.region ?_
        refine J.quiet (Y.fieldB rfl rfl rfl rfl rfl) rfl ?_
        refine J.quiet (Y.loadB 5 rfl rfl rfl rfl rfl) rfl ?_
        refine J.quiet (Y.lenN rfl (Lent.fact 1 rfl) rfl) rfl ?_
        refine J.quiet (Y.move rfl) rfl ?_
        refine J.done ?_
        refine J.thenN ?_
        refine J.block ?_
        refine J.loopI (A := Int × List (Int) × (List (List (Int × Int)))) (B := List Value) (family_Relabel_s1 fuel p0 p1) (fun a29 b30 => [(1, v3), (2, Value.pointer (some ⟨b1, 0, none⟩)), (4, Value.pointer (some ⟨b2, 0, none⟩)), (6, Value.pointer (some ⟨b14, 0, none⟩)), (27, v1), (28, Value.int .i64 (List.length p0.2 : Int)), (29, Value.int .i64 (a29.1))]) (fun a29 b30 => [Blk b14 [x13.1, x13.2.1] 26, Ar EI64 x13.1 a29.2.1, Ar Enc.raw x13.2.1 b30, Rws EI64I64p b30 a29.2.2, Blk b2 [Value.slice none 0 0, Value.slice none 0 0] 26, Blk b1 [v0, v1] 26]) (fun a29 b30 => [Sl RI64 v0 p0.1, S2 RI64I64p v1 z2 p0.2, Sl RI64 v3 p1]) ((0 : Int), r11.1, r11.2) (x13.2.2) h (by repeat (first | exact SubF.nil | refine SubF.cons rfl ?_)) (SubM.refl _) (LentAll.refl _ _) ?_
        clear h
        intro k31 a29 b30 h
        unfold family_Relabel_s1 at h
        refine J.seq ?_
        refine J.region ?_
        refine J.quiet (Y.lss rfl rfl) rfl ?_
        refine J.done ?_
        refine J.thenN ?_
        refine J.seq ?_
        refine J.condD (by exact rfl) (fun hp32 => ?_) (fun hp32 => ?_)
        · replace h := ifP hp32 h
          refine J.skip ?_
          refine J.thenN ?_
          refine J.seq ?_
          refine J.midI (A := (List (List (Int × Int)))) (B := List Value) (fun a35 => family_Relabel_k2 p0 p1 a29 (iter (family_Relabel_s1 fuel p0 p1) k31) a35 = some r) (fun a35 b36 => [(1, v3), (2, Value.pointer (some ⟨b1, 0, none⟩)), (4, Value.pointer (some ⟨b2, 0, none⟩)), (6, Value.pointer (some ⟨b14, 0, none⟩)), (27, v1), (28, Value.int .i64 (List.length p0.2 : Int)), (29, Value.int .i64 (a29.1))]) (fun a35 b36 => [Blk b14 [x13.1, x13.2.1] 26, Ar EI64 x13.1 (List.set a29.2.1 (Int.toNat (at' p1 a29.1)) (at' p0.1 a29.1)), Ar Enc.raw x13.2.1 b36, Rws EI64I64p b36 a35, Blk b2 [Value.slice none 0 0, Value.slice none 0 0] 26, Blk b1 [v0, v1] 26]) (fun a35 b36 => [Sl RI64 v0 p0.1, S2 RI64I64p v1 z2 p0.2, Sl RI64 v3 p1]) ?_ ?_
          · refine J.block ?_
            refine J.seq ?_
            refine J.region ?_
            refine J.quiet (Y.move rfl) rfl ?_
            replace h := ck_some h; obtain ⟨hc37, h⟩ := h
            refine J.quiet (Y.indexN rfl rfl (Lent.fact 1 rfl) rfl rfl hc37) rfl ?_
            refine J.quiet (Y.loadRow rfl (Lent.fact 1 rfl) rfl rfl hc37) rfl ?_
            refine J.quiet (Y.assign rfl) rfl ?_
            refine J.quiet (Y.assign rfl) rfl ?_
            refine J.done ?_
            refine J.thenN ?_
            refine J.seq ?_
            refine JR.start [0, 1, 0, 0, 12, 28, 0, 64, 0, 448, 960, 2047, 4095] 11 mixedOrders (by decide +kernel) ?_
            refine JR.open (by exact rfl) ?_
            refine JR.qt rfl (SubM.nil) (SubL.nil) (Y.fieldB rfl rfl rfl rfl rfl) HistOk.z ?_
            refine JR.qt rfl (SubM.cons 0 rfl (SubM.nil)) (SubL.nil) (Y.loadB 0 rfl rfl rfl rfl rfl) HistOk.z ?_
            refine JR.qt rfl (SubM.nil) (SubL.nil) (Y.move rfl) HistOk.z ?_
            refine JR.qt rfl (SubM.nil) (SubL.nil) (Y.move rfl) HistOk.z ?_
            replace h := ck_some h; obtain ⟨hc38, h⟩ := h
            refine JR.qt rfl (SubM.nil) (SubL.cons (List.mem_of_getElem? (i := 2) rfl) (SubL.nil)) (Y.indexS rfl rfl (Lent.fact 0 rfl) rfl rfl hc38) HistOk.z ?_
            refine JR.qt rfl (SubM.nil) (SubL.cons (List.mem_of_getElem? (i := 2) rfl) (SubL.nil)) (Y.loadS0 rfl (Lent.fact 0 rfl) rfl rfl rfl RI64c0 hc38) HistOk.z ?_
            refine JR.qt rfl (SubM.nil) (SubL.nil) (Y.fieldB rfl rfl rfl rfl rfl) HistOk.z ?_
            refine JR.qt rfl (SubM.cons 5 rfl (SubM.nil)) (SubL.nil) (Y.loadB 0 rfl rfl rfl rfl rfl) HistOk.z ?_
            refine JR.qt rfl (SubM.nil) (SubL.nil) (Y.move rfl) HistOk.z ?_
            replace h := ck_some h; obtain ⟨hc39, h⟩ := h
            refine JR.qt rfl (SubM.nil) (SubL.cons (List.mem_of_getElem? (i := 0) rfl) (SubL.nil)) (Y.indexS rfl rfl (Lent.fact 0 rfl) rfl rfl hc39) HistOk.z ?_
            refine JR.qt rfl (SubM.nil) (SubL.cons (List.mem_of_getElem? (i := 0) rfl) (SubL.nil)) (Y.loadS0 rfl (Lent.fact 0 rfl) rfl rfl rfl RI64c0 hc39) HistOk.z ?_
            refine JR.tailD 11 rfl rfl ?_
            replace h := ck_some h; obtain ⟨hc40, h⟩ := h
            refine J.quiet (Y.indexS rfl rfl (Lent.ar (Lent.res 1 rfl) FI64) rfl rfl hc40) rfl ?_
            refine J.storeS 1 (at' p0.1 a29.1) hc40 rfl rfl rfl rfl rfl rfl rfl ?_
            refine J.done ?_
            refine J.thenN ?_
            refine J.seq ?_
            refine J.region ?_
            refine J.quiet (Y.move rfl) rfl ?_
            refine J.quiet (Y.lenS rfl (Lent.el (Lent.fact 1 rfl) hc37.1 hc37.2) rfl) rfl ?_
            refine J.quiet (Y.move rfl) rfl ?_
            refine J.done ?_
            refine J.thenN ?_
            refine J.block ?_
            refine J.loopI (A := Int × (List (List (Int × Int)))) (B := List Value) (family_Relabel_s2 p0 p1 a29 (iter (family_Relabel_s1 fuel p0 p1) k31)) (fun a45 b46 => [(1, v3), (2, Value.pointer (some ⟨b1, 0, none⟩)), (4, Value.pointer (some ⟨b2, 0, none⟩)), (6, Value.pointer (some ⟨b14, 0, none⟩)), (7, Value.int .i64 (a29.1)), (27, v1), (28, Value.int .i64 (List.length p0.2 : Int)), (29, Value.int .i64 (a29.1)), (46, (at' z2 a29.1).1), (47, Value.int .i64 (List.length (at' p0.2 a29.1) : Int)), (48, Value.int .i64 (a45.1))]) (fun a45 b46 => [Blk b14 [x13.1, x13.2.1] 26, Ar EI64 x13.1 (List.set a29.2.1 (Int.toNat (at' p1 a29.1)) (at' p0.1 a29.1)), Ar Enc.raw x13.2.1 b46, Rws EI64I64p b46 a45.2, Blk b2 [Value.slice none 0 0, Value.slice none 0 0] 26, Blk b1 [v0, v1] 26]) (fun a45 b46 => [Sl RI64 v0 p0.1, S2 RI64I64p v1 z2 p0.2, Sl RI64 v3 p1]) ((0 : Int), a29.2.2) (b30) h (by repeat (first | exact SubF.nil | refine SubF.cons rfl ?_)) (SubM.refl _) (LentAll.refl _ _) ?_
            clear h
            intro k47 a45 b46 h
            unfold family_Relabel_s2 at h
            refine J.seq ?_
            refine J.region ?_
            refine J.quiet (Y.lss rfl rfl) rfl ?_
            refine J.done ?_
            refine J.thenN ?_
            refine J.seq ?_
            refine J.condD (by exact rfl) (fun hp48 => ?_) (fun hp48 => ?_)
            · replace h := ifP hp48 h
              refine J.skip ?_
              refine J.thenN ?_
              refine J.seq ?_
              refine J.block ?_
              refine J.seq ?_
              refine J.region ?_
              replace h := ck_some h; obtain ⟨hc49, h⟩ := h
              refine J.quiet (Y.indexS rfl rfl (Lent.el (Lent.fact 1 rfl) hc37.1 hc37.2) rfl rfl hc49) rfl ?_
              refine J.quiet (Y.loadAggS (cs := [Value.int .i64 ((at' (at' p0.2 a29.1) a45.1).1), Value.int .i64 ((at' (at' p0.2 a29.1) a45.1).2)]) rfl (Lent.el (Lent.fact 1 rfl) hc37.1 hc37.2) FI64I64p rfl rfl rfl rfl hc49) rfl ?_
              refine J.loud (Loud.alloc (cs := [Value.int .i64 (0 : Int), Value.int .i64 (0 : Int)]) rfl rfl) rfl fun b50 => ?_
              refine J.storeAll 0 (vs := [Value.int .i64 ((at' (at' p0.2 a29.1) a45.1).1), Value.int .i64 ((at' (at' p0.2 a29.1) a45.1).2)]) rfl rfl rfl rfl rfl rfl ?_
              refine J.done ?_
              refine J.thenN ?_
              refine JR.start [0, 1, 0, 0, 12, 28, 0, 64, 0, 0, 768, 1792, 4032, 8128, 0, 0, 32768, 114688, 245760, 0, 524288, 2080768, 4177920, 8388544, 16777215, 33554431] 24 mixedOrders (by decide +kernel) ?_
              refine JR.open (by exact rfl) ?_
              refine JR.qt rfl (SubM.nil) (SubL.nil) (Y.fieldB rfl rfl rfl rfl rfl) HistOk.z ?_
              refine JR.qt rfl (SubM.cons 1 rfl (SubM.nil)) (SubL.nil) (Y.loadB 0 rfl rfl rfl rfl rfl) HistOk.z ?_
              refine JR.qt rfl (SubM.nil) (SubL.nil) (Y.move rfl) HistOk.z ?_
              refine JR.qt rfl (SubM.nil) (SubL.nil) (Y.move rfl) HistOk.z ?_
              replace h := ck_some h; obtain ⟨hc51, h⟩ := h
              refine JR.qt rfl (SubM.nil) (SubL.cons (List.mem_of_getElem? (i := 2) rfl) (SubL.nil)) (Y.indexS rfl rfl (Lent.fact 0 rfl) rfl rfl hc51) HistOk.z ?_
              refine JR.qt rfl (SubM.nil) (SubL.cons (List.mem_of_getElem? (i := 2) rfl) (SubL.nil)) (Y.loadS0 rfl (Lent.fact 0 rfl) rfl rfl rfl RI64c0 hc51) HistOk.z ?_
              refine JR.qt rfl (SubM.nil) (SubL.nil) (Y.fieldB rfl rfl rfl rfl rfl) HistOk.z ?_
              refine JR.qt rfl (SubM.cons 1 rfl (SubM.nil)) (SubL.nil) (Y.loadB 0 rfl rfl rfl rfl rfl) HistOk.z ?_
              refine JR.qt rfl (SubM.nil) (SubL.nil) (Y.move rfl) HistOk.z ?_
              refine JR.qt rfl (SubM.nil) (SubL.nil) (Y.move rfl) HistOk.z ?_
              replace h := ck_some h; obtain ⟨hc52, h⟩ := h
              refine JR.qt rfl (SubM.nil) (SubL.cons (List.mem_of_getElem? (i := 2) rfl) (SubL.nil)) (Y.indexS rfl rfl (Lent.fact 0 rfl) rfl rfl hc52) HistOk.z ?_
              refine JR.qt rfl (SubM.nil) (SubL.cons (List.mem_of_getElem? (i := 2) rfl) (SubL.nil)) (Y.loadS0 rfl (Lent.fact 0 rfl) rfl rfl rfl RI64c0 hc52) HistOk.z ?_
              replace h := ck_some h; obtain ⟨hc53, h⟩ := h
              refine JR.qt rfl (SubM.cons 3 rfl (SubM.cons 3 rfl (SubM.nil))) (SubL.nil) (Y.indexN rfl rfl (Lent.rows (i := 0) (j := 1) rfl rfl FI64I64p) rfl rfl hc53) HistOk.z ?_
              refine JR.know (Know.rws 4 rfl) fun hl54 => ?_
              refine JR.qt rfl (SubM.cons 3 rfl (SubM.nil)) (SubL.nil) (Y.loadRaw 0 rfl rfl hl54 rfl rfl hc53) HistOk.z ?_
              refine JR.qt rfl (SubM.nil) (SubL.nil) (Y.move rfl) HistOk.z ?_
              refine JR.qt rfl (SubM.nil) (SubL.nil) (Y.fieldB rfl rfl rfl rfl rfl) HistOk.z ?_
              refine JR.qt rfl (SubM.cons 0 rfl (SubM.nil)) (SubL.nil) (Y.loadB 0 rfl rfl rfl rfl rfl) HistOk.z ?_
              replace h := ck_some h; obtain ⟨hc55, h⟩ := h
              refine JR.qt rfl (SubM.nil) (SubL.cons (List.mem_of_getElem? (i := 2) rfl) (SubL.nil)) (Y.indexS rfl rfl (Lent.fact 0 rfl) rfl rfl hc55) HistOk.z ?_
              refine JR.qt rfl (SubM.nil) (SubL.cons (List.mem_of_getElem? (i := 2) rfl) (SubL.nil)) (Y.loadS0 rfl (Lent.fact 0 rfl) rfl rfl rfl RI64c0 hc55) HistOk.z ?_
              refine JR.qt rfl (SubM.nil) (SubL.nil) (Y.fieldB rfl rfl rfl rfl rfl) HistOk.z ?_
              refine JR.qt rfl (SubM.cons 0 rfl (SubM.nil)) (SubL.nil) (Y.loadB 0 rfl rfl rfl rfl rfl) HistOk.z ?_
              refine JR.qt rfl (SubM.nil) (SubL.nil) (Y.bld2 (r := Value.agg #[Value.int .i64 (at' p1 ((at' (at' p0.2 a29.1) a45.1).1)), Value.int .i64 ((at' (at' p0.2 a29.1) a45.1).2)]) rfl rfl (by intro w; simp [Instr.build, Instr.fill, cells_intV, cells_boolV, cells_sliceV, cells_ptrV, cells_strV, cells_funcV, cells_agg])) HistOk.z ?_
              refine JR.loud rfl rfl rfl (Loud.buildS (e := EI64I64p) ([(((at' p1 ((at' (at' p0.2 a29.1) a45.1).1)), ((at' (at' p0.2 a29.1) a45.1).2)))]) [(0, Value.agg #[Value.int .i64 (at' p1 ((at' (at' p0.2 a29.1) a45.1).1)), Value.int .i64 ((at' (at' p0.2 a29.1) a45.1).2)])] rfl rfl rfl rfl (fill_1_2 (Value.int .i64 (at' p1 ((at' (at' p0.2 a29.1) a45.1).1))) (Value.int .i64 ((at' (at' p0.2 a29.1) a45.1).2))) rfl rfl rfl) rfl (fun u56 => (BsOk.b rfl (BsOk.b rfl (BsOk.b rfl (BsOk.b rfl (BsOk.b rfl (BsOk.b rfl (BsOk.b rfl (BsOk.b rfl (BsOk.h (SubM.cons 4 rfl (SubM.nil)) (SubL.nil) (BsOk.h (SubM.cons 4 rfl (SubM.cons 4 rfl (SubM.nil))) (SubL.nil) (BsOk.h (SubM.nil) (SubL.cons (List.mem_of_getElem? (i := 2) rfl) (SubL.nil)) (BsOk.h (SubM.nil) (SubL.cons (List.mem_of_getElem? (i := 2) rfl) (SubL.nil)) (BsOk.h (SubM.nil) (SubL.nil) (BsOk.h (SubM.nil) (SubL.nil) (BsOk.h (SubM.cons 2 rfl (SubM.nil)) (SubL.nil) (BsOk.h (SubM.nil) (SubL.nil) (BsOk.h (SubM.nil) (SubL.cons (List.mem_of_getElem? (i := 2) rfl) (SubL.nil)) (BsOk.h (SubM.nil) (SubL.cons (List.mem_of_getElem? (i := 2) rfl) (SubL.nil)) (BsOk.h (SubM.nil) (SubL.nil) (BsOk.h (SubM.nil) (SubL.nil) (BsOk.h (SubM.cons 2 rfl (SubM.nil)) (SubL.nil) (BsOk.h (SubM.nil) (SubL.nil) BsOk.z))))))))))))))))))))))) fun u56 => ?_
              replace h := ck_some h; obtain ⟨hc58, h⟩ := h
              refine JR.loud rfl rfl rfl (Loud.appendRowL 5 FI64I64p rfl rfl rfl (Lent.ar (Lent.res 0 rfl) FI64I64p) rfl rfl rfl rfl hc53 hc58 rfl) rfl (fun u57 => (BsOk.b rfl (BsOk.b rfl (BsOk.b rfl (BsOk.b rfl (BsOk.b rfl (BsOk.b rfl (BsOk.b rfl (BsOk.b rfl (BsOk.b rfl (BsOk.b rfl (BsOk.b rfl (BsOk.b rfl (BsOk.b rfl (BsOk.b rfl (BsOk.b rfl (BsOk.b rfl (BsOk.h (SubM.nil) (SubL.cons (List.mem_of_getElem? (i := 2) rfl) (SubL.nil)) (BsOk.h (SubM.nil) (SubL.cons (List.mem_of_getElem? (i := 2) rfl) (SubL.nil)) (BsOk.h (SubM.nil) (SubL.nil) (BsOk.h (SubM.nil) (SubL.nil) (BsOk.h (SubM.cons 2 rfl (SubM.nil)) (SubL.nil) (BsOk.h (SubM.nil) (SubL.nil) BsOk.z))))))))))))))))))))))) fun u57 => ?_
              refine JR.tailD 24 rfl rfl ?_
              replace h := ck_some h; obtain ⟨hc59, h⟩ := h
              refine J.know (Know.rws 5 rfl) fun hl60 => ?_
              refine J.quiet (Y.indexA 4 rfl rfl rfl rfl rfl hc59.1 (by have q1 := hc59.2; have q2 := hl60; simp only [List.length_set] at q1 q2; omega)) rfl ?_
              refine J.know (Know.oneRow 5 (k := (at' p1 a29.1)) rfl ⟨hc59.1, by simpa using hc59.2⟩) fun ho61 => ?_
              refine J.storeRow 4 5 ⟨hc59.1, by simpa using hc59.2⟩ rfl rfl rfl rfl rfl (by simp) ho61 rfl ?_
              refine J.done ?_
              refine J.inN ?_
              refine J.thenN ?_
              refine J.region ?_
              refine J.quiet (Y.addW rfl rfl) rfl ?_
              refine J.quiet (Y.move rfl) rfl ?_
              refine J.done ?_
              refine J.thenN ?_
              exact J.againI ((wI .i64 (a45.1 + (1 : Int))), (List.set a45.2 (Int.toNat (at' p1 a29.1)) ((at' a45.2 (at' p1 a29.1)) ++ ([ ((at' p1 ((at' (at' p0.2 a29.1) a45.1).1)), ((at' (at' p0.2 a29.1) a45.1).2))])))) (List.set b46 (Int.toNat (at' p1 a29.1)) u57) h (by repeat (first | exact SubF.nil | refine SubF.cons rfl ?_)) (SubM.cons 2 rfl (SubM.cons 2 rfl (SubM.cons 2 rfl (SubM.cons 2 rfl (SubM.cons 2 rfl (SubM.cons 2 rfl (SubM.nil))))))) (LentAll.refl _ _)
            · replace h := ifN hp48 h
              refine J.exit ?_
              refine J.thenX ?_
              refine J.thenX ?_
              refine J.inX ?_
              refine J.inN ?_
              refine J.thenN ?_
              exact J.meetI (a45.2) (b46) h (by repeat (first | exact SubF.nil | refine SubF.cons rfl ?_)) (SubM.refl _) (LentAll.refl _ _)
          · clear h
            intro a35 b36 h
            unfold family_Relabel_k2 at h
            refine J.region ?_
            refine J.quiet (Y.addW rfl rfl) rfl ?_
            refine J.quiet (Y.move rfl) rfl ?_
            refine J.done ?_
            refine J.thenN ?_
            exact J.againI ((wI .i64 (a29.1 + (1 : Int))), (List.set a29.2.1 (Int.toNat (at' p1 a29.1)) (at' p0.1 a29.1)), a35) (b36) h (by repeat (first | exact SubF.nil | refine SubF.cons rfl ?_)) (SubM.refl _) (LentAll.refl _ _)
        · replace h := ifN hp32 h
          refine J.exit ?_
          refine J.thenX ?_
          refine J.thenX ?_
          refine J.inX ?_
          refine J.thenN ?_
          exact J.meetI (a29.2.1, a29.2.2) (b30) h (by repeat (first | exact SubF.nil | refine SubF.cons rfl ?_)) (SubM.cons 0 rfl (SubM.cons 0 rfl (SubM.cons 0 rfl (SubM.cons 0 rfl (SubM.cons 0 rfl (SubM.nil)))))) (LentAll.refl _ _)
      · clear h
        intro a20 b21 h
        unfold family_Relabel_k1 at h
        refine J.seq ?_
        refine J.region ?_
        refine J.quiet (Y.loadBAll 0 rfl rfl rfl rfl) rfl ?_
        refine J.know (Know.one ((Lent.ar (Lent.res 1 rfl) FI64))) fun ho22 => ?_
        refine J.know (Know.one (Lent.sl (Lent.rows (i := 2) (j := 3) rfl rfl FI64I64p))) fun ho23 => ?_
        refine J.storeAll 4 (vs := [x13.1, x13.2.1]) rfl rfl (all1 ho22 (all1 ho23 rfl)) rfl rfl rfl ?_
        refine J.quiet (Y.assign rfl) rfl ?_
        refine J.done ?_
        refine J.thenN ?_
        refine J.ret ?_
        obtain rfl := Option.some.inj h
        exact J.retG2 (x13.1, x13.2.1, b21) rfl rfl (RV.cell 4 rfl rfl rfl rfl) (RV.tmp rfl) (SubM.cons 1 rfl (SubM.cons 1 rfl (SubM.cons 1 rfl (SubM.nil)))) LentAll.nil

end Go.Proofs.Ytemhmmcakmidkaa
end
section
set_option linter.unusedVariables false
set_option linter.unusedSimpArgs false
namespace Go.Proofs.Ytemhmmcakmidkaa
open Go.Sx
set_option linter.unusedVariables false
set_option linter.unusedSimpArgs false
def ref03_Permutation_k1  (a2 : Unit) : Option (Bool) :=
  some (true)
def ref03_Permutation_k2 (a6 : Int) (ag5 : (Int) → Option (Bool)) (a10 : Unit) : Option (Bool) :=
  ag5 (wI .i64 (a6 + (1 : Int)))
def ref03_Permutation_s2 (p0 : List (Int)) (a6 : Int) (ag5 : (Int) → Option (Bool)) (a19 : Int) (ag18 : (Int) → Option (Bool)) : Option (Bool) :=
  if a19 < a6 then (ck (0 ≤ a19 ∧ a19 < (List.length p0 : Int)) (ck (0 ≤ a6 ∧ a6 < (List.length p0 : Int)) (if (at' p0 a19) = (at' p0 a6) then (some (false)) else (ag18 (wI .i64 (a19 + (1 : Int))))))) else (ref03_Permutation_k2 a6 ag5 (()))
def ref03_Permutation_s1 (fuel : Nat) (p0 : List (Int)) (p1 : Int) (a6 : Int) (ag5 : (Int) → Option (Bool)) : Option (Bool) :=
  if a6 < p1 then (ck (0 ≤ a6 ∧ a6 < (List.length p0 : Int)) (Option.bind (m_ref01_In fuel (at' p0 a6) (0 : Int) (wI .i64 (p1 - (1 : Int)))) fun r13 => (if (!r13) = true then (some (false)) else (iter (ref03_Permutation_s2 p0 a6 ag5) fuel (0 : Int))))) else (ref03_Permutation_k1  (()))
def m_ref03_Permutation (fuel : Nat) (p0 : List (Int)) (p1 : Int) : Option (Bool) :=
  if (List.length p0 : Int) ≠ p1 then (some (false)) else (iter (ref03_Permutation_s1 fuel p0 p1) fuel (0 : Int))

theorem body52 : HasBody Try.prog 52 := Try.call52

set_option maxHeartbeats 4000000 in
set_option maxRecDepth 20000 in
theorem t_ref03_Permutation (fuel : Nat) {p0 : List (Int)} {p1 : Int} (v0 : Value) (r : Bool) (h : m_ref03_Permutation fuel p0 p1 = some r) :
    Meets Try.prog 52 #[v0, Value.int .i64 (p1)] [Sl RI64 v0 p0] (fun x : Unit => Value.bool (r)) (fun x l => l) (fun _ l => l) := by
  refine Meets.of (vs := [v0, Value.int .i64 (p1)]) Try.func52 rfl Try.ntmps52 rfl fun c => ?_
  unfold m_ref03_Permutation at h
  refine J.seq ?_
  refine J.region ?_
  refine J.quiet (Y.assign rfl) rfl ?_
  refine J.done ?_
  refine J.thenN ?_
  refine J.seq ?_
  refine J.seq ?_
  refine J.region ?_
  refine J.quiet (Y.move rfl) rfl ?_
  refine J.quiet (Y.lenS rfl (Lent.fact 0 rfl) rfl) rfl ?_
  refine J.quiet (Y.move rfl) rfl ?_
  refine J.quiet (Y.neq rfl rfl) rfl ?_
  refine J.done ?_
  refine J.thenN ?_
  refine J.condD (by exact rfl) (fun hp1 => ?_) (fun hp1 => ?_)
  · replace h := ifP hp1 h
    refine J.seq ?_
    refine J.region ?_
    refine J.quiet (Y.assign rfl) rfl ?_
    refine J.done ?_
    refine J.thenN ?_
    refine J.ret ?_
    refine J.thenR ?_
    obtain rfl := Option.some.inj h
    exact J.retG1 (()) rfl rfl (RV.tmp rfl) (SubM.refl _) LentAll.nil
  · replace h := ifN hp1 h
    refine J.skip ?_
    refine J.thenN ?_
    refine J.seq ?_
    refine J.midI (A := Unit) (B := Unit) (fun a2 => ref03_Permutation_k1  a2 = some r) (fun a2 b3 => []) (fun a2 b3 => []) (fun a2 b3 => [Sl RI64 v0 p0]) ?_ ?_
    · refine J.seq ?_
      refine J.region ?_
      refine J.quiet (Y.assign rfl) rfl ?_
      refine J.done ?_
      refine J.thenN ?_
      refine J.block ?_
      refine J.loopI (A := Int) (B := Unit) (ref03_Permutation_s1 fuel p0 p1) (fun a6 b7 => [(0, v0), (1, Value.int .i64 (p1)), (5, Value.int .i64 (a6))]) (fun a6 b7 => []) (fun a6 b7 => [Sl RI64 v0 p0]) (0 : Int) (()) h (by repeat (first | exact SubF.nil | refine SubF.cons rfl ?_)) (SubM.refl _) (LentAll.refl _ _) ?_
      clear h
      intro k8 a6 b7 h
      unfold ref03_Permutation_s1 at h
      refine J.seq ?_
      refine J.seq ?_
      refine J.region ?_
      refine J.quiet (Y.move rfl) rfl ?_
      refine J.quiet (Y.move rfl) rfl ?_
      refine J.quiet (Y.lss rfl rfl) rfl ?_
      refine J.done ?_
      refine J.thenN ?_
      refine J.condD (by exact rfl) (fun hp9 => ?_) (fun hp9 => ?_)
      · replace h := ifP hp9 h
        refine J.skip ?_
        refine J.thenN ?_
        refine J.seq ?_
        refine J.midI (A := Unit) (B := Unit) (fun a10 => ref03_Permutation_k2 a6 (iter (ref03_Permutation_s1 fuel p0 p1) k8) a10 = some r) (fun a10 b11 => [(0, v0), (1, Value.int .i64 (p1)), (5, Value.int .i64 (a6))]) (fun a10 b11 => []) (fun a10 b11 => [Sl RI64 v0 p0]) ?_ ?_
        · refine J.block ?_
          refine J.seq ?_
          refine J.seq ?_
          refine J.region ?_
          refine J.quiet (Y.move rfl) rfl ?_
          refine J.quiet (Y.move rfl) rfl ?_
          replace h := ck_some h; obtain ⟨hc12, h⟩ := h
          refine J.quiet (Y.indexS rfl rfl (Lent.fact 0 rfl) rfl rfl hc12) rfl ?_
          refine J.quiet (Y.loadS0 rfl (Lent.fact 0 rfl) rfl rfl rfl RI64c0 hc12) rfl ?_
          refine J.quiet (Y.move rfl) rfl ?_
          refine J.quiet (Y.subW rfl rfl) rfl ?_
          replace h := bnd h; obtain ⟨r13, hr14, h⟩ := h
          refine J.loud (Loud.callL body72 (t_ref01_In fuel  r13 hr14) rfl (LentAll.nil) (fun _ _ => rfl)) rfl fun x15 => ?_
          refine J.quiet (Y.not rfl) rfl ?_
          refine J.done ?_
          refine J.thenN ?_
          refine J.cond (by exact rfl) (fun hp16 => ?_) (fun hp16 => ?_)
          · replace h := ifP hp16 h
            refine J.seq ?_
            refine J.region ?_
            refine J.quiet (Y.assign rfl) rfl ?_
            refine J.done ?_
            refine J.thenN ?_
            refine J.ret ?_
            refine J.thenR ?_
            refine J.inR ?_
            refine J.thenR ?_
            refine J.thenR ?_
            refine J.inR ?_
            refine J.thenR ?_
            obtain rfl := Option.some.inj h
            exact J.retG1 (()) rfl rfl (RV.tmp rfl) (SubM.refl _) LentAll.nil
          · replace h := ifBN hp16 h
            refine J.skip ?_
            refine J.thenN ?_
            refine J.seq ?_
            refine J.region ?_
            refine J.quiet (Y.assign rfl) rfl ?_
            refine J.done ?_
            refine J.thenN ?_
            refine J.block ?_
            refine J.loopI (A := Int) (B := Unit) (ref03_Permutation_s2 p0 a6 (iter (ref03_Permutation_s1 fuel p0 p1) k8)) (fun a19 b20 => [(0, v0), (1, Value.int .i64 (p1)), (5, Value.int .i64 (a6)), (6, Value.int .i64 (a19))]) (fun a19 b20 => []) (fun a19 b20 => [Sl RI64 v0 p0]) (0 : Int) (()) h (by repeat (first | exact SubF.nil | refine SubF.cons rfl ?_)) (SubM.refl _) (LentAll.refl _ _) ?_
            clear h
            intro k21 a19 b20 h
            unfold ref03_Permutation_s2 at h
            refine J.seq ?_
            refine J.seq ?_
            refine J.region ?_
            refine J.quiet (Y.move rfl) rfl ?_
            refine J.quiet (Y.move rfl) rfl ?_
            refine J.quiet (Y.lss rfl rfl) rfl ?_
            refine J.done ?_
            refine J.thenN ?_
            refine J.condD (by exact rfl) (fun hp22 => ?_) (fun hp22 => ?_)
            · replace h := ifP hp22 h
              refine J.skip ?_
              refine J.thenN ?_
              refine J.seq ?_
              refine J.block ?_
              refine J.seq ?_
              refine JR.start [0, 0, 3, 7, 0, 0, 48, 112, 255] 8 mixedOrders (by decide +kernel) ?_
              refine JR.open (by exact rfl) ?_
              refine JR.qt rfl (SubM.refl _) (SubL.nil) (Y.move rfl) HistOk.z ?_
              refine JR.qt rfl (SubM.refl _) (SubL.nil) (Y.move rfl) HistOk.z ?_
              replace h := ck_some h; obtain ⟨hc23, h⟩ := h
              refine JR.qt rfl (SubM.refl _) (SubL.cons (List.mem_of_getElem? (i := 0) rfl) (SubL.nil)) (Y.indexS rfl rfl (Lent.fact 0 rfl) rfl rfl hc23) HistOk.z ?_
              refine JR.qt rfl (SubM.refl _) (SubL.cons (List.mem_of_getElem? (i := 0) rfl) (SubL.nil)) (Y.loadS0 rfl (Lent.fact 0 rfl) rfl rfl rfl RI64c0 hc23) HistOk.z ?_
              refine JR.qt rfl (SubM.refl _) (SubL.nil) (Y.move rfl) HistOk.z ?_
              refine JR.qt rfl (SubM.refl _) (SubL.nil) (Y.move rfl) HistOk.z ?_
              replace h := ck_some h; obtain ⟨hc24, h⟩ := h
              refine JR.qt rfl (SubM.refl _) (SubL.cons (List.mem_of_getElem? (i := 0) rfl) (SubL.nil)) (Y.indexS rfl rfl (Lent.fact 0 rfl) rfl rfl hc24) HistOk.z ?_
              refine JR.qt rfl (SubM.refl _) (SubL.cons (List.mem_of_getElem? (i := 0) rfl) (SubL.nil)) (Y.loadS0 rfl (Lent.fact 0 rfl) rfl rfl rfl RI64c0 hc24) HistOk.z ?_
              refine JR.tailD 8 rfl rfl ?_
              refine J.quiet (Y.eql rfl rfl) rfl ?_
              refine J.done ?_
              refine J.thenN ?_
              refine J.condD (by exact rfl) (fun hp25 => ?_) (fun hp25 => ?_)
              · replace h := ifP hp25 h
                refine J.seq ?_
                refine J.region ?_
                refine J.quiet (Y.assign rfl) rfl ?_
                refine J.done ?_
                refine J.thenN ?_
                refine J.ret ?_
                refine J.inR ?_
                refine J.thenR ?_
                refine J.thenR ?_
                refine J.inR ?_
                refine J.inR ?_
                refine J.thenR ?_
                refine J.thenR ?_
                refine J.inR ?_
                refine J.thenR ?_
                obtain rfl := Option.some.inj h
                exact J.retG1 (()) rfl rfl (RV.tmp rfl) (SubM.refl _) LentAll.nil
              · replace h := ifN hp25 h
                refine J.skip ?_
                refine J.inN ?_
                refine J.thenN ?_
                refine J.region ?_
                refine J.quiet (Y.move rfl) rfl ?_
                refine J.quiet (Y.addW rfl rfl) rfl ?_
                refine J.quiet (Y.assign rfl) rfl ?_
                refine J.done ?_
                refine J.thenN ?_
                exact J.againI (wI .i64 (a19 + (1 : Int))) (()) h (by repeat (first | exact SubF.nil | refine SubF.cons rfl ?_)) (SubM.refl _) (LentAll.refl _ _)
            · replace h := ifN hp22 h
              refine J.exit ?_
              refine J.thenX ?_
              refine J.thenX ?_
              refine J.inX ?_
              refine J.inN ?_
              refine J.thenN ?_
              exact J.meetI (()) (()) h (by repeat (first | exact SubF.nil | refine SubF.cons rfl ?_)) (SubM.refl _) (LentAll.refl _ _)
        · clear h
          intro a10 b11 h
          unfold ref03_Permutation_k2 at h
          refine J.region ?_
          refine J.quiet (Y.move rfl) rfl ?_
          refine J.quiet (Y.addW rfl rfl) rfl ?_
          refine J.quiet (Y.assign rfl) rfl ?_
          refine J.done ?_
          refine J.thenN ?_
          exact J.againI (wI .i64 (a6 + (1 : Int))) (()) h (by repeat (first | exact SubF.nil | refine SubF.cons rfl ?_)) (SubM.refl _) (LentAll.refl _ _)
      · replace h := ifN hp9 h
        refine J.exit ?_
        refine J.thenX ?_
        refine J.thenX ?_
        refine J.inX ?_
        refine J.thenN ?_
        exact J.meetI (()) (()) h (by repeat (first | exact SubF.nil | refine SubF.cons rfl ?_)) (SubM.refl _) (LentAll.refl _ _)
    · clear h
      intro a2 b3 h
      unfold ref03_Permutation_k1 at h
      refine J.seq ?_
      refine J.region ?_
      refine J.quiet (Y.assign rfl) rfl ?_
      refine J.done ?_
      refine J.thenN ?_
      refine J.ret ?_
      obtain rfl := Option.some.inj h
      exact J.retG1 (()) rfl rfl (RV.tmp rfl) (SubM.refl _) LentAll.nil

end Go.Proofs.Ytemhmmcakmidkaa
end
section
set_option linter.unusedVariables false
set_option linter.unusedSimpArgs false
namespace Go.Proofs.Ytemhmmcakmidkaa
open Go.Sx
set_option linter.unusedVariables false
set_option linter.unusedSimpArgs false
def ref03_Relabel_k1  (a20 : List (Int) × (List (List (Int × Int)))) : Option ((List (Int) × (List (List (Int × Int)))) × Int) :=
  some (((a20.1, a20.2)), (0 : Int))
def ref03_Relabel_k2 (p0 : List (Int) × (List (List (Int × Int)))) (p1 : List (Int)) (a29 : Int × List (Int) × (List (List (Int × Int)))) (ag28 : (Int × List (Int) × (List (List (Int × Int)))) → Option ((List (Int) × (List (List (Int × Int)))) × Int)) (a35 : (List (List (Int × Int)))) : Option ((List (Int) × (List (List (Int × Int)))) × Int) :=
  ag28 ((wI .i64 (a29.1 + (1 : Int))), (List.set a29.2.1 (Int.toNat (at' p1 a29.1)) (at' p0.1 a29.1)), a35)
def ref03_Relabel_s2 (p0 : List (Int) × (List (List (Int × Int)))) (p1 : List (Int)) (a29 : Int × List (Int) × (List (List (Int × Int)))) (ag28 : (Int × List (Int) × (List (List (Int × Int)))) → Option ((List (Int) × (List (List (Int × Int)))) × Int)) (a44 : Int × (List (List (Int × Int)))) (ag43 : (Int × (List (List (Int × Int)))) → Option ((List (Int) × (List (List (Int × Int)))) × Int)) : Option ((List (Int) × (List (List (Int × Int)))) × Int) :=
  ck (0 ≤ a29.1 ∧ a29.1 < (List.length p0.2 : Int)) (if a44.1 < (List.length (at' p0.2 a29.1) : Int) then (ck (0 ≤ a29.1 ∧ a29.1 < (List.length p1 : Int)) (ck (0 ≤ a29.1 ∧ a29.1 < (List.length p1 : Int)) (ck (0 ≤ (at' p1 a29.1) ∧ (at' p1 a29.1) < (List.length a44.2 : Int)) (ck (0 ≤ a29.1 ∧ a29.1 < (List.length p0.2 : Int)) (ck (0 ≤ a44.1 ∧ a44.1 < (List.length (at' p0.2 a29.1) : Int)) (ck (0 ≤ ((at' (at' p0.2 a29.1) a44.1).1) ∧ ((at' (at' p0.2 a29.1) a44.1).1) < (List.length p1 : Int)) (ck (0 ≤ a29.1 ∧ a29.1 < (List.length p0.2 : Int)) (ck (0 ≤ a44.1 ∧ a44.1 < (List.length (at' p0.2 a29.1) : Int)) (ck ((List.length (at' a44.2 (at' p1 a29.1)) : Int) + (List.length ([ ((at' p1 ((at' (at' p0.2 a29.1) a44.1).1)), ((at' (at' p0.2 a29.1) a44.1).2))]) : Int) ≤ 1099511627) (ck (0 ≤ (at' p1 a29.1) ∧ (at' p1 a29.1) < (List.length (List.set a44.2 (Int.toNat (at' p1 a29.1)) ((at' a44.2 (at' p1 a29.1)) ++ ([ ((at' p1 ((at' (at' p0.2 a29.1) a44.1).1)), ((at' (at' p0.2 a29.1) a44.1).2))]))) : Int)) (ag43 ((wI .i64 (a44.1 + (1 : Int))), (List.set a44.2 (Int.toNat (at' p1 a29.1)) ((at' a44.2 (at' p1 a29.1)) ++ ([ ((at' p1 ((at' (at' p0.2 a29.1) a44.1).1)), ((at' (at' p0.2 a29.1) a44.1).2))]))))))))))))))) else (ref03_Relabel_k2 p0 p1 a29 ag28 (a44.2)))
def ref03_Relabel_s1 (fuel : Nat) (p0 : List (Int) × (List (List (Int × Int)))) (p1 : List (Int)) (a29 : Int × List (Int) × (List (List (Int × Int)))) (ag28 : (Int × List (Int) × (List (List (Int × Int)))) → Option ((List (Int) × (List (List (Int × Int)))) × Int)) : Option ((List (Int) × (List (List (Int × Int)))) × Int) :=
  if a29.1 < (List.length p1 : Int) then (ck (0 ≤ a29.1 ∧ a29.1 < (List.length p1 : Int)) (ck (0 ≤ a29.1 ∧ a29.1 < (List.length p0.1 : Int)) (ck (0 ≤ (at' p1 a29.1) ∧ (at' p1 a29.1) < (List.length a29.2.1 : Int)) (iter (ref03_Relabel_s2 p0 p1 a29 ag28) fuel ((0 : Int), a29.2.2))))) else (ref03_Relabel_k1  (a29.2.1, a29.2.2))
def m_ref03_Relabel (fuel : Nat) (p0 : List (Int) × (List (List (Int × Int)))) (p1 : List (Int)) : Option ((List (Int) × (List (List (Int × Int)))) × Int) :=
  Option.bind (m_ref01_Valid fuel ((p0.1, p0.2))) fun r3 => (if (!r3) = true then (some (((([] : List Int), ([] : List (List (Int × Int))))), (1 : Int))) else (Option.bind (m_ref03_Permutation fuel p1 (List.length p0.2 : Int)) fun r7 => (if (!r7) = true then (some (((([] : List Int), ([] : List (List (Int × Int))))), (2 : Int))) else (Option.bind (m_ref03_plain fuel (List.length p1 : Int)) fun r11 => (iter (ref03_Relabel_s1 fuel p0 p1) fuel ((0 : Int), r11.1, r11.2))))))

theorem body48 : HasBody Try.prog 48 := Try.call48

set_option maxHeartbeats 4000000 in
set_option maxRecDepth 20000 in
theorem t_ref03_Relabel (fuel : Nat) {p0 : List (Int) × (List (List (Int × Int)))} {p1 : List (Int)} (v0 : Value)  (v1 : Value)  (z2 : List (Value × List (Int × Int)))  (v3 : Value) (r : (List (Int) × (List (List (Int × Int)))) × Int) (h : m_ref03_Relabel fuel p0 p1 = some r) :
    Meets Try.prog 48 #[Value.agg #[v0, v1], v3] [Sl RI64 v0 p0.1, S2 RI64I64p v1 z2 p0.2, Sl RI64 v3 p1] (fun x : Value × Value × List Value => Value.tuple #[Value.agg #[x.1, x.2.1], Value.int .i64 (r.2)]) (fun x l => Ar EI64 x.1 r.1.1 :: Ar Enc.raw x.2.1 x.2.2 :: Rws EI64I64p x.2.2 r.1.2 :: l) (fun _ l => l) := by
  refine Meets.of (vs := [Value.agg #[v0, v1], v3]) Try.func48 rfl Try.ntmps48 rfl fun c => ?_
  unfold m_ref03_Relabel at h
  refine J.seq ?_
  refine J.region ?_
  refine J.loud (Loud.box (cs := [v0, v1]) rfl rfl) rfl fun b1 => ?_
  refine J.loud (Loud.alloc (cs := [Value.slice none 0 0, Value.slice none 0 0]) rfl rfl) rfl fun b2 => ?_
  refine J.quiet (Y.assign rfl) rfl ?_
  refine J.done ?_
  refine J.thenN ?_
  refine J.seq ?_
  refine J.seq ?_
  refine J.region ?_
  refine J.quiet (Y.loadBAll 1 rfl rfl rfl rfl) rfl ?_
  replace h := bnd h; obtain ⟨r3, hr4, h⟩ := h
  refine J.loud (Loud.callL body51 (t_ref01_Valid fuel v0 v1 z2 r3 hr4) rfl (LentAll.cons (Lent.fact 0 rfl) (LentAll.cons (Lent.fact 1 rfl) (LentAll.nil))) (fun _ _ => rfl)) rfl fun x5 => ?_
  refine J.quiet (Y.not rfl) rfl ?_
  refine J.done ?_
  refine J.thenN ?_
  refine J.cond (by exact rfl) (fun hp6 => ?_) (fun hp6 => ?_)
  · replace h := ifP hp6 h
    refine J.seq ?_
    refine J.region ?_
    refine J.quiet (Y.bld0 (r := Value.agg #[Value.slice none 0 0, Value.slice none 0 0]) (by intro w; simp [Instr.build, Instr.fill, cells_intV, cells_boolV, cells_sliceV, cells_ptrV, cells_strV, cells_funcV, cells_agg])) rfl ?_
    refine J.storeAll 0 (vs := [Value.slice none 0 0, Value.slice none 0 0]) rfl rfl rfl rfl rfl rfl ?_
    refine J.quiet (Y.assign rfl) rfl ?_
    refine J.done ?_
    refine J.thenN ?_
    refine J.ret ?_
    refine J.thenR ?_
    refine J.stp (Stp.nilAr EI64) ?_
    refine J.stp (Stp.nilAr Enc.raw) (J.stp (Stp.rowsNil EI64I64p) ?_)
    obtain rfl := Option.some.inj h
    exact J.retG2 ((Value.slice none 0 0), (Value.slice none 0 0), ([] : List Value)) rfl rfl (RV.cell 3 rfl rfl rfl rfl) (RV.tmp rfl) (SubM.cons 2 rfl (SubM.cons 1 rfl (SubM.cons 0 rfl (SubM.nil)))) LentAll.nil
  · replace h := ifBN hp6 h
    refine J.skip ?_
    refine J.thenN ?_
    refine J.seq ?_
    refine J.seq ?_
    refine J.region ?_
    refine J.quiet (Y.move rfl) rfl ?_
    refine J.quiet (Y.fieldB rfl rfl rfl rfl rfl) rfl ?_
    refine J.quiet (Y.loadB 1 rfl rfl rfl rfl rfl) rfl ?_
    refine J.quiet (Y.lenN rfl (Lent.fact 1 rfl) rfl) rfl ?_
    replace h := bnd h; obtain ⟨r7, hr8, h⟩ := h
    refine J.loud (Loud.callL body52 (t_ref03_Permutation fuel v3 r7 hr8) rfl (LentAll.cons (Lent.fact 2 rfl) (LentAll.nil)) (fun _ _ => rfl)) rfl fun x9 => ?_
    refine J.quiet (Y.not rfl) rfl ?_
    refine J.done ?_
    refine J.thenN ?_
    refine J.cond (by exact rfl) (fun hp10 => ?_) (fun hp10 => ?_)
    · replace h := ifP hp10 h
      refine J.seq ?_
      refine J.region ?_
      refine J.quiet (Y.bld0 (r := Value.agg #[Value.slice none 0 0, Value.slice none 0 0]) (by intro w; simp [Instr.build, Instr.fill, cells_intV, cells_boolV, cells_sliceV, cells_ptrV, cells_strV, cells_funcV, cells_agg])) rfl ?_
      refine J.storeAll 0 (vs := [Value.slice none 0 0, Value.slice none 0 0]) rfl rfl rfl rfl rfl rfl ?_
      refine J.quiet (Y.assign rfl) rfl ?_
      refine J.done ?_
      refine J.thenN ?_
      refine J.ret ?_
      refine J.thenR ?_
      refine J.stp (Stp.nilAr EI64) ?_
      refine J.stp (Stp.nilAr Enc.raw) (J.stp (Stp.rowsNil EI64I64p) ?_)
      obtain rfl := Option.some.inj h
      exact J.retG2 ((Value.slice none 0 0), (Value.slice none 0 0), ([] : List Value)) rfl rfl (RV.cell 3 rfl rfl rfl rfl) (RV.tmp rfl) (SubM.cons 2 rfl (SubM.cons 1 rfl (SubM.cons 0 rfl (SubM.nil)))) LentAll.nil
    · replace h := ifBN hp10 h
      refine J.skip ?_
      refine J.thenN ?_
      refine J.seq ?_
      refine J.region ?_
      refine J.quiet (Y.move rfl) rfl ?_
      refine J.quiet (Y.lenS rfl (Lent.fact 2 rfl) rfl) rfl ?_
      replace h := bnd h; obtain ⟨r11, hr12, h⟩ := h
      refine J.loud (Loud.callL body73 (t_ref03_plain fuel  r11 hr12) rfl (LentAll.nil) (fun _ _ => rfl)) rfl fun x13 => ?_
      refine J.loud (Loud.alloc (cs := [Value.slice none 0 0, Value.slice none 0 0]) rfl rfl) rfl fun b14 => ?_
      refine J.know (Know.one ((Lent.ar (Lent.res 1 rfl) FI64))) fun ho15 => ?_
      refine J.know (Know.one (Lent.sl (Lent.rows (i := 2) (j := 3) rfl rfl FI64I64p))) fun ho16 => ?_
      refine J.storeAll 0 (vs := [x13.1, x13.2.1]) rfl rfl (all1 ho15 (all1 ho16 rfl)) rfl rfl rfl ?_
      refine J.done ?_
      refine J.thenN ?_
      refine J.seq ?_
      refine J.midI (A := List (Int) × (List (List (Int × Int)))) (B := List Value) (fun a20 => ref03_Relabel_k1  a20 = some r) (fun a20 b21 => [(4, Value.pointer (some ⟨b2, 0, none⟩)), (6, Value.pointer (some ⟨b14, 0, none⟩))]) (fun a20 b21 => [Blk b14 [x13.1, x13.2.1] 26, Ar EI64 x13.1 a20.1, Ar Enc.raw x13.2.1 b21, Rws EI64I64p b21 a20.2, Blk b2 [Value.slice none 0 0, Value.slice none 0 0] 26]) (fun a20 b21 => [Sl RI64 v0 p0.1, S2 RI64I64p v1 z2 p0.2, Sl RI64 v3 p1]) ?_ ?_
      · refine J.seq ?_
        refine J.region ?_
        refine J.quiet (Y.assign rfl) rfl ?_
        refine J.done ?_
        refine J.thenN ?_
        refine J.block ?_
        refine J.loopI (A := Int × List (Int) × (List (List (Int × Int)))) (B := List Value) (ref03_Relabel_s1 fuel p0 p1) (fun a29 b30 => [(1, v3), (2, Value.pointer (some ⟨b1, 0, none⟩)), (4, Value.pointer (some ⟨b2, 0, none⟩)), (6, Value.pointer (some ⟨b14, 0, none⟩)), (7, Value.int .i64 (a29.1))]) (fun a29 b30 => [Blk b14 [x13.1, x13.2.1] 26, Ar EI64 x13.1 a29.2.1, Ar Enc.raw x13.2.1 b30, Rws EI64I64p b30 a29.2.2, Blk b2 [Value.slice none 0 0, Value.slice none 0 0] 26, Blk b1 [v0, v1] 26]) (fun a29 b30 => [Sl RI64 v0 p0.1, S2 RI64I64p v1 z2 p0.2, Sl RI64 v3 p1]) ((0 : Int), r11.1, r11.2) (x13.2.2) h (by repeat (first | exact SubF.nil | refine SubF.cons rfl ?_)) (SubM.refl _) (LentAll.refl _ _) ?_
        clear h
        intro k31 a29 b30 h
        unfold ref03_Relabel_s1 at h
        refine J.seq ?_
        refine J.seq ?_
        refine J.region ?_
        refine J.quiet (Y.move rfl) rfl ?_
        refine J.quiet (Y.move rfl) rfl ?_
        refine J.quiet (Y.lenS rfl (Lent.fact 2 rfl) rfl) rfl ?_
        refine J.quiet (Y.lss rfl rfl) rfl ?_
        refine J.done ?_
        refine J.thenN ?_
        refine J.condD (by exact rfl) (fun hp32 => ?_) (fun hp32 => ?_)
        · replace h := ifP hp32 h
          refine J.skip ?_
          refine J.thenN ?_
          refine J.seq ?_
          refine J.midI (A := (List (List (Int × Int)))) (B := List Value) (fun a35 => ref03_Relabel_k2 p0 p1 a29 (iter (ref03_Relabel_s1 fuel p0 p1) k31) a35 = some r) (fun a35 b36 => [(1, v3), (2, Value.pointer (some ⟨b1, 0, none⟩)), (4, Value.pointer (some ⟨b2, 0, none⟩)), (6, Value.pointer (some ⟨b14, 0, none⟩)), (7, Value.int .i64 (a29.1))]) (fun a35 b36 => [Blk b14 [x13.1, x13.2.1] 26, Ar EI64 x13.1 (List.set a29.2.1 (Int.toNat (at' p1 a29.1)) (at' p0.1 a29.1)), Ar Enc.raw x13.2.1 b36, Rws EI64I64p b36 a35, Blk b2 [Value.slice none 0 0, Value.slice none 0 0] 26, Blk b1 [v0, v1] 26]) (fun a35 b36 => [Sl RI64 v0 p0.1, S2 RI64I64p v1 z2 p0.2, Sl RI64 v3 p1]) ?_ ?_
          · refine J.block ?_
            refine J.seq ?_
            refine JR.start [0, 1, 0, 0, 12, 28, 0, 64, 0, 448, 960, 2047, 4095] 11 mixedOrders (by decide +kernel) ?_
            refine JR.open (by exact rfl) ?_
            refine JR.qt rfl (SubM.nil) (SubL.nil) (Y.fieldB rfl rfl rfl rfl rfl) HistOk.z ?_
            refine JR.qt rfl (SubM.cons 0 rfl (SubM.nil)) (SubL.nil) (Y.loadB 0 rfl rfl rfl rfl rfl) HistOk.z ?_
            refine JR.qt rfl (SubM.nil) (SubL.nil) (Y.move rfl) HistOk.z ?_
            refine JR.qt rfl (SubM.nil) (SubL.nil) (Y.move rfl) HistOk.z ?_
            replace h := ck_some h; obtain ⟨hc37, h⟩ := h
            refine JR.qt rfl (SubM.nil) (SubL.cons (List.mem_of_getElem? (i := 2) rfl) (SubL.nil)) (Y.indexS rfl rfl (Lent.fact 0 rfl) rfl rfl hc37) HistOk.z ?_
            refine JR.qt rfl (SubM.nil) (SubL.cons (List.mem_of_getElem? (i := 2) rfl) (SubL.nil)) (Y.loadS0 rfl (Lent.fact 0 rfl) rfl rfl rfl RI64c0 hc37) HistOk.z ?_
            refine JR.qt rfl (SubM.nil) (SubL.nil) (Y.fieldB rfl rfl rfl rfl rfl) HistOk.z ?_
            refine JR.qt rfl (SubM.cons 5 rfl (SubM.nil)) (SubL.nil) (Y.loadB 0 rfl rfl rfl rfl rfl) HistOk.z ?_
            refine JR.qt rfl (SubM.nil) (SubL.nil) (Y.move rfl) HistOk.z ?_
            replace h := ck_some h; obtain ⟨hc38, h⟩ := h
            refine JR.qt rfl (SubM.nil) (SubL.cons (List.mem_of_getElem? (i := 0) rfl) (SubL.nil)) (Y.indexS rfl rfl (Lent.fact 0 rfl) rfl rfl hc38) HistOk.z ?_
            refine JR.qt rfl (SubM.nil) (SubL.cons (List.mem_of_getElem? (i := 0) rfl) (SubL.nil)) (Y.loadS0 rfl (Lent.fact 0 rfl) rfl rfl rfl RI64c0 hc38) HistOk.z ?_
            refine JR.tailD 11 rfl rfl ?_
            replace h := ck_some h; obtain ⟨hc39, h⟩ := h
            refine J.quiet (Y.indexS rfl rfl (Lent.ar (Lent.res 1 rfl) FI64) rfl rfl hc39) rfl ?_
            refine J.storeS 1 (at' p0.1 a29.1) hc39 rfl rfl rfl rfl rfl rfl rfl ?_
            refine J.done ?_
            refine J.thenN ?_
            refine J.seq ?_
            refine J.region ?_
            refine J.quiet (Y.assign rfl) rfl ?_
            refine J.done ?_
            refine J.thenN ?_
            refine J.block ?_
            refine J.loopI (A := Int × (List (List (Int × Int)))) (B := List Value) (ref03_Relabel_s2 p0 p1 a29 (iter (ref03_Relabel_s1 fuel p0 p1) k31)) (fun a44 b45 => [(1, v3), (2, Value.pointer (some ⟨b1, 0, none⟩)), (4, Value.pointer (some ⟨b2, 0, none⟩)), (6, Value.pointer (some ⟨b14, 0, none⟩)), (7, Value.int .i64 (a29.1)), (8, Value.int .i64 (a44.1))]) (fun a44 b45 => [Blk b14 [x13.1, x13.2.1] 26, Ar EI64 x13.1 (List.set a29.2.1 (Int.toNat (at' p1 a29.1)) (at' p0.1 a29.1)), Ar Enc.raw x13.2.1 b45, Rws EI64I64p b45 a44.2, Blk b2 [Value.slice none 0 0, Value.slice none 0 0] 26, Blk b1 [v0, v1] 26]) (fun a44 b45 => [Sl RI64 v0 p0.1, S2 RI64I64p v1 z2 p0.2, Sl RI64 v3 p1]) ((0 : Int), a29.2.2) (b30) h (by repeat (first | exact SubF.nil | refine SubF.cons rfl ?_)) (SubM.refl _) (LentAll.refl _ _) ?_
            clear h
            intro k46 a44 b45 h
            unfold ref03_Relabel_s2 at h
            refine J.seq ?_
            refine J.seq ?_
            refine J.region ?_
            refine J.quiet (Y.move rfl) rfl ?_
            refine J.quiet (Y.fieldB rfl rfl rfl rfl rfl) rfl ?_
            refine J.quiet (Y.loadB 5 rfl rfl rfl rfl rfl) rfl ?_
            refine J.quiet (Y.move rfl) rfl ?_
            replace h := ck_some h; obtain ⟨hc47, h⟩ := h
            refine J.quiet (Y.indexN rfl rfl (Lent.fact 1 rfl) rfl rfl hc47) rfl ?_
            refine J.quiet (Y.loadRow rfl (Lent.fact 1 rfl) rfl rfl hc47) rfl ?_
            refine J.quiet (Y.lenS rfl (Lent.el (Lent.fact 1 rfl) hc47.1 hc47.2) rfl) rfl ?_
            refine J.quiet (Y.lss rfl rfl) rfl ?_
            refine J.done ?_
            refine J.thenN ?_
            refine J.condD (by exact rfl) (fun hp48 => ?_) (fun hp48 => ?_)
            · replace h := ifP hp48 h
              refine J.skip ?_
              refine J.thenN ?_
              refine J.seq ?_
              refine J.block ?_
              refine JR.start [0, 1, 0, 0, 12, 28, 0, 64, 0, 0, 768, 1792, 4032, 8128, 0, 0, 32768, 0, 229376, 491520, 0, 2064384, 4161536, 8355840, 16760832, 33538048, 0, 67108864, 0, 469762048, 1006632960, 0, 4227858432, 8522825728, 17112760320, 34359721984, 68719460352, 137438953408, 274877906943, 549755813887] 38 mixedOrders (by decide +kernel) ?_
              refine JR.open (by exact rfl) ?_
              refine JR.qt rfl (SubM.nil) (SubL.nil) (Y.fieldB rfl rfl rfl rfl rfl) HistOk.z ?_
              refine JR.qt rfl (SubM.cons 0 rfl (SubM.nil)) (SubL.nil) (Y.loadB 0 rfl rfl rfl rfl rfl) HistOk.z ?_
              refine JR.qt rfl (SubM.nil) (SubL.nil) (Y.move rfl) HistOk.z ?_
              refine JR.qt rfl (SubM.nil) (SubL.nil) (Y.move rfl) HistOk.z ?_
              replace h := ck_some h; obtain ⟨hc49, h⟩ := h
              refine JR.qt rfl (SubM.nil) (SubL.cons (List.mem_of_getElem? (i := 2) rfl) (SubL.nil)) (Y.indexS rfl rfl (Lent.fact 0 rfl) rfl rfl hc49) HistOk.z ?_
              refine JR.qt rfl (SubM.nil) (SubL.cons (List.mem_of_getElem? (i := 2) rfl) (SubL.nil)) (Y.loadS0 rfl (Lent.fact 0 rfl) rfl rfl rfl RI64c0 hc49) HistOk.z ?_
              refine JR.qt rfl (SubM.nil) (SubL.nil) (Y.fieldB rfl rfl rfl rfl rfl) HistOk.z ?_
              refine JR.qt rfl (SubM.cons 0 rfl (SubM.nil)) (SubL.nil) (Y.loadB 0 rfl rfl rfl rfl rfl) HistOk.z ?_
              refine JR.qt rfl (SubM.nil) (SubL.nil) (Y.move rfl) HistOk.z ?_
              refine JR.qt rfl (SubM.nil) (SubL.nil) (Y.move rfl) HistOk.z ?_
              replace h := ck_some h; obtain ⟨hc50, h⟩ := h
              refine JR.qt rfl (SubM.nil) (SubL.cons (List.mem_of_getElem? (i := 2) rfl) (SubL.nil)) (Y.indexS rfl rfl (Lent.fact 0 rfl) rfl rfl hc50) HistOk.z ?_
              refine JR.qt rfl (SubM.nil) (SubL.cons (List.mem_of_getElem? (i := 2) rfl) (SubL.nil)) (Y.loadS0 rfl (Lent.fact 0 rfl) rfl rfl rfl RI64c0 hc50) HistOk.z ?_
              replace h := ck_some h; obtain ⟨hc51, h⟩ := h
              refine JR.qt rfl (SubM.cons 2 rfl (SubM.cons 2 rfl (SubM.nil))) (SubL.nil) (Y.indexN rfl rfl (Lent.rows (i := 0) (j := 1) rfl rfl FI64I64p) rfl rfl hc51) HistOk.z ?_
              refine JR.know (Know.rws 3 rfl) fun hl52 => ?_
              refine JR.qt rfl (SubM.cons 2 rfl (SubM.nil)) (SubL.nil) (Y.loadRaw 0 rfl rfl hl52 rfl rfl hc51) HistOk.z ?_
              refine JR.qt rfl (SubM.nil) (SubL.nil) (Y.move rfl) HistOk.z ?_
              refine JR.qt rfl (SubM.nil) (SubL.nil) (Y.fieldB rfl rfl rfl rfl rfl) HistOk.z ?_
              refine JR.qt rfl (SubM.cons 5 rfl (SubM.nil)) (SubL.nil) (Y.loadB 0 rfl rfl rfl rfl rfl) HistOk.z ?_
              refine JR.qt rfl (SubM.nil) (SubL.nil) (Y.move rfl) HistOk.z ?_
              replace h := ck_some h; obtain ⟨hc53, h⟩ := h
              refine JR.qt rfl (SubM.nil) (SubL.cons (List.mem_of_getElem? (i := 1) rfl) (SubL.nil)) (Y.indexN rfl rfl (Lent.fact 0 rfl) rfl rfl hc53) HistOk.z ?_
              refine JR.qt rfl (SubM.nil) (SubL.cons (List.mem_of_getElem? (i := 1) rfl) (SubL.nil)) (Y.loadRow rfl (Lent.fact 0 rfl) rfl rfl hc53) HistOk.z ?_
              refine JR.qt rfl (SubM.nil) (SubL.nil) (Y.move rfl) HistOk.z ?_
              replace h := ck_some h; obtain ⟨hc54, h⟩ := h
              refine JR.qt rfl (SubM.nil) (SubL.cons (List.mem_of_getElem? (i := 1) rfl) (SubL.nil)) (Y.indexS rfl rfl (Lent.el (Lent.fact 0 rfl) hc53.1 hc53.2) rfl rfl hc54) HistOk.z ?_
              refine JR.qt rfl (SubM.nil) (SubL.nil) (Y.fieldEl rfl rfl rfl rfl rfl) HistOk.z ?_
              refine JR.qt rfl (SubM.nil) (SubL.cons (List.mem_of_getElem? (i := 1) rfl) (SubL.nil)) (Y.loadS rfl (Lent.el (Lent.fact 0 rfl) hc53.1 hc53.2) rfl rfl rfl RI64I64pc0 hc54) HistOk.z ?_
              replace h := ck_some h; obtain ⟨hc55, h⟩ := h
              refine JR.qt rfl (SubM.nil) (SubL.cons (List.mem_of_getElem? (i := 2) rfl) (SubL.nil)) (Y.indexS rfl rfl (Lent.fact 0 rfl) rfl rfl hc55) HistOk.z ?_
              refine JR.qt rfl (SubM.nil) (SubL.cons (List.mem_of_getElem? (i := 2) rfl) (SubL.nil)) (Y.loadS0 rfl (Lent.fact 0 rfl) rfl rfl rfl RI64c0 hc55) HistOk.z ?_
              refine JR.qt rfl (SubM.nil) (SubL.nil) (Y.fieldB rfl rfl rfl rfl rfl) HistOk.z ?_
              refine JR.qt rfl (SubM.cons 5 rfl (SubM.nil)) (SubL.nil) (Y.loadB 0 rfl rfl rfl rfl rfl) HistOk.z ?_
              refine JR.qt rfl (SubM.nil) (SubL.nil) (Y.move rfl) HistOk.z ?_
              replace h := ck_some h; obtain ⟨hc56, h⟩ := h
              refine JR.qt rfl (SubM.nil) (SubL.cons (List.mem_of_getElem? (i := 1) rfl) (SubL.nil)) (Y.indexN rfl rfl (Lent.fact 0 rfl) rfl rfl hc56) HistOk.z ?_
              refine JR.qt rfl (SubM.nil) (SubL.cons (List.mem_of_getElem? (i := 1) rfl) (SubL.nil)) (Y.loadRow rfl (Lent.fact 0 rfl) rfl rfl hc56) HistOk.z ?_
              refine JR.qt rfl (SubM.nil) (SubL.nil) (Y.move rfl) HistOk.z ?_
              replace h := ck_some h; obtain ⟨hc57, h⟩ := h
              refine JR.qt rfl (SubM.nil) (SubL.cons (List.mem_of_getElem? (i := 1) rfl) (SubL.nil)) (Y.indexS rfl rfl (Lent.el (Lent.fact 0 rfl) hc56.1 hc56.2) rfl rfl hc57) HistOk.z ?_
              refine JR.qt rfl (SubM.nil) (SubL.nil) (Y.fieldEl rfl rfl rfl rfl rfl) HistOk.z ?_
              refine JR.qt rfl (SubM.nil) (SubL.cons (List.mem_of_getElem? (i := 1) rfl) (SubL.nil)) (Y.loadS rfl (Lent.el (Lent.fact 0 rfl) hc56.1 hc56.2) rfl rfl rfl RI64I64pc1 hc57) HistOk.z ?_
              refine JR.qt rfl (SubM.nil) (SubL.nil) (Y.bld2 (r := Value.agg #[Value.int .i64 (at' p1 ((at' (at' p0.2 a29.1) a44.1).1)), Value.int .i64 ((at' (at' p0.2 a29.1) a44.1).2)]) rfl rfl (by intro w; simp [Instr.build, Instr.fill, cells_intV, cells_boolV, cells_sliceV, cells_ptrV, cells_strV, cells_funcV, cells_agg])) HistOk.z ?_
              refine JR.loud rfl rfl rfl (Loud.buildS (e := EI64I64p) ([(((at' p1 ((at' (at' p0.2 a29.1) a44.1).1)), ((at' (at' p0.2 a29.1) a44.1).2)))]) [(0, Value.agg #[Value.int .i64 (at' p1 ((at' (at' p0.2 a29.1) a44.1).1)), Value.int .i64 ((at' (at' p0.2 a29.1) a44.1).2)])] rfl rfl rfl rfl (fill_1_2 (Value.int .i64 (at' p1 ((at' (at' p0.2 a29.1) a44.1).1))) (Value.int .i64 ((at' (at' p0.2 a29.1) a44.1).2))) rfl rfl rfl) rfl (fun u58 => (BsOk.b rfl (BsOk.b rfl (BsOk.b rfl (BsOk.b rfl (BsOk.b rfl (BsOk.b rfl (BsOk.b rfl (BsOk.b rfl (BsOk.b rfl (BsOk.b rfl (BsOk.b rfl (BsOk.b rfl (BsOk.b rfl (BsOk.b rfl (BsOk.b rfl (BsOk.b rfl (BsOk.b rfl (BsOk.b rfl (BsOk.b rfl (BsOk.b rfl (BsOk.b rfl (BsOk.b rfl (BsOk.h (SubM.cons 3 rfl (SubM.nil)) (SubL.nil) (BsOk.h (SubM.cons 3 rfl (SubM.cons 3 rfl (SubM.nil))) (SubL.nil) (BsOk.h (SubM.nil) (SubL.cons (List.mem_of_getElem? (i := 2) rfl) (SubL.nil)) (BsOk.h (SubM.nil) (SubL.cons (List.mem_of_getElem? (i := 2) rfl) (SubL.nil)) (BsOk.h (SubM.nil) (SubL.nil) (BsOk.h (SubM.nil) (SubL.nil) (BsOk.h (SubM.cons 1 rfl (SubM.nil)) (SubL.nil) (BsOk.h (SubM.nil) (SubL.nil) (BsOk.h (SubM.nil) (SubL.cons (List.mem_of_getElem? (i := 2) rfl) (SubL.nil)) (BsOk.h (SubM.nil) (SubL.cons (List.mem_of_getElem? (i := 2) rfl) (SubL.nil)) (BsOk.h (SubM.nil) (SubL.nil) (BsOk.h (SubM.nil) (SubL.nil) (BsOk.h (SubM.cons 1 rfl (SubM.nil)) (SubL.nil) (BsOk.h (SubM.nil) (SubL.nil) BsOk.z))))))))))))))))))))))))))))))))))))) fun u58 => ?_
              replace h := ck_some h; obtain ⟨hc60, h⟩ := h
              refine JR.loud rfl rfl rfl (Loud.appendRowL 4 FI64I64p rfl rfl rfl (Lent.ar (Lent.res 0 rfl) FI64I64p) rfl rfl rfl rfl hc51 hc60 rfl) rfl (fun u59 => (BsOk.b rfl (BsOk.b rfl (BsOk.b rfl (BsOk.b rfl (BsOk.b rfl (BsOk.b rfl (BsOk.b rfl (BsOk.b rfl (BsOk.b rfl (BsOk.b rfl (BsOk.b rfl (BsOk.b rfl (BsOk.b rfl (BsOk.b rfl (BsOk.b rfl (BsOk.b rfl (BsOk.b rfl (BsOk.b rfl (BsOk.b rfl (BsOk.b rfl (BsOk.b rfl (BsOk.b rfl (BsOk.b rfl (BsOk.b rfl (BsOk.b rfl (BsOk.b rfl (BsOk.b rfl (BsOk.b rfl (BsOk.b rfl (BsOk.b rfl (BsOk.h (SubM.nil) (SubL.cons (List.mem_of_getElem? (i := 2) rfl) (SubL.nil)) (BsOk.h (SubM.nil) (SubL.cons (List.mem_of_getElem? (i := 2) rfl) (SubL.nil)) (BsOk.h (SubM.nil) (SubL.nil) (BsOk.h (SubM.nil) (SubL.nil) (BsOk.h (SubM.cons 1 rfl (SubM.nil)) (SubL.nil) (BsOk.h (SubM.nil) (SubL.nil) BsOk.z))))))))))))))))))))))))))))))))))))) fun u59 => ?_
              refine JR.tailD 38 rfl rfl ?_
              replace h := ck_some h; obtain ⟨hc61, h⟩ := h
              refine J.know (Know.rws 4 rfl) fun hl62 => ?_
              refine J.quiet (Y.indexA 3 rfl rfl rfl rfl rfl hc61.1 (by have q1 := hc61.2; have q2 := hl62; simp only [List.length_set] at q1 q2; omega)) rfl ?_
              refine J.know (Know.oneRow 4 (k := (at' p1 a29.1)) rfl ⟨hc61.1, by simpa using hc61.2⟩) fun ho63 => ?_
              refine J.storeRow 3 4 ⟨hc61.1, by simpa using hc61.2⟩ rfl rfl rfl rfl rfl (by simp) ho63 rfl ?_
              refine J.done ?_
              refine J.inN ?_
              refine J.thenN ?_
              refine J.region ?_
              refine J.quiet (Y.move rfl) rfl ?_
              refine J.quiet (Y.addW rfl rfl) rfl ?_
              refine J.quiet (Y.assign rfl) rfl ?_
              refine J.done ?_
              refine J.thenN ?_
              exact J.againI ((wI .i64 (a44.1 + (1 : Int))), (List.set a44.2 (Int.toNat (at' p1 a29.1)) ((at' a44.2 (at' p1 a29.1)) ++ ([ ((at' p1 ((at' (at' p0.2 a29.1) a44.1).1)), ((at' (at' p0.2 a29.1) a44.1).2))])))) (List.set b45 (Int.toNat (at' p1 a29.1)) u59) h (by repeat (first | exact SubF.nil | refine SubF.cons rfl ?_)) (SubM.cons 1 rfl (SubM.cons 1 rfl (SubM.cons 1 rfl (SubM.cons 1 rfl (SubM.cons 1 rfl (SubM.cons 1 rfl (SubM.nil))))))) (LentAll.refl _ _)
            · replace h := ifN hp48 h
              refine J.exit ?_
              refine J.thenX ?_
              refine J.thenX ?_
              refine J.inX ?_
              refine J.inN ?_
              refine J.thenN ?_
              exact J.meetI (a44.2) (b45) h (by repeat (first | exact SubF.nil | refine SubF.cons rfl ?_)) (SubM.refl _) (LentAll.refl _ _)
          · clear h
            intro a35 b36 h
            unfold ref03_Relabel_k2 at h
            refine J.region ?_
            refine J.quiet (Y.move rfl) rfl ?_
            refine J.quiet (Y.addW rfl rfl) rfl ?_
            refine J.quiet (Y.assign rfl) rfl ?_
            refine J.done ?_
            refine J.thenN ?_
            exact J.againI ((wI .i64 (a29.1 + (1 : Int))), (List.set a29.2.1 (Int.toNat (at' p1 a29.1)) (at' p0.1 a29.1)), a35) (b36) h (by repeat (first | exact SubF.nil | refine SubF.cons rfl ?_)) (SubM.refl _) (LentAll.refl _ _)
        · replace h := ifN hp32 h
          refine J.exit ?_
          refine J.thenX ?_
          refine J.thenX ?_
          refine J.inX ?_
          refine J.thenN ?_
          exact J.meetI (a29.2.1, a29.2.2) (b30) h (by repeat (first | exact SubF.nil | refine SubF.cons rfl ?_)) (SubM.cons 0 rfl (SubM.cons 0 rfl (SubM.cons 0 rfl (SubM.cons 0 rfl (SubM.cons 0 rfl (SubM.nil)))))) (LentAll.refl _ _)
      · clear h
        intro a20 b21 h
        unfold ref03_Relabel_k1 at h
        refine J.seq ?_
        refine J.region ?_
        refine J.quiet (Y.loadBAll 0 rfl rfl rfl rfl) rfl ?_
        refine J.know (Know.one ((Lent.ar (Lent.res 1 rfl) FI64))) fun ho22 => ?_
        refine J.know (Know.one (Lent.sl (Lent.rows (i := 2) (j := 3) rfl rfl FI64I64p))) fun ho23 => ?_
        refine J.storeAll 4 (vs := [x13.1, x13.2.1]) rfl rfl (all1 ho22 (all1 ho23 rfl)) rfl rfl rfl ?_
        refine J.quiet (Y.assign rfl) rfl ?_
        refine J.done ?_
        refine J.thenN ?_
        refine J.ret ?_
        obtain rfl := Option.some.inj h
        exact J.retG2 (x13.1, x13.2.1, b21) rfl rfl (RV.cell 4 rfl rfl rfl rfl) (RV.tmp rfl) (SubM.cons 1 rfl (SubM.cons 1 rfl (SubM.cons 1 rfl (SubM.nil)))) LentAll.nil

end Go.Proofs.Ytemhmmcakmidkaa
end
section
set_option linter.unusedVariables false
set_option linter.unusedSimpArgs false
namespace Go.Proofs.Ytemhmmcakmidkaa
open Go.Sx
def PermAt (p : List Int) (n k : Nat) : Prop := (0 ≤ at' p (k : Int) ∧ at' p (k : Int) ≤ (n : Int) - 1) ∧ ∀ j, j < k → at' p (j : Int) ≠ at' p (k : Int)
def IsPerm (p : List Int) (n : Nat) : Prop := p.length = n ∧ ∀ k, k < n → PermAt p n k

theorem refPermutation_eq (p : List Int) (n : Nat) (hn : n ≤ 30) : (IsPerm p n → m_ref03_Permutation 1000 p (n : Int) = some true) ∧ (¬ IsPerm p n → m_ref03_Permutation 1000 p (n : Int) = some false) := by
  unfold m_ref03_Permutation
  by_cases hl : p.length = n
  rotate_left
  · rw [if_pos (by omega)]
    exact ⟨fun h => absurd h.1 hl, fun _ => rfl⟩
  rw [if_neg (by omega)]
  have inner : ∀ (i : Nat) (ag : Int → Option Bool), i < n → ((∀ k, k < i → at' p (k : Int) ≠ at' p (i : Int)) → iter (ref03_Permutation_s2 p i ag) 1000 0 = ag ((i : Int) + 1)) ∧ (¬ (∀ k, k < i → at' p (k : Int) ≠ at' p (i : Int)) → iter (ref03_Permutation_s2 p i ag) 1000 0 = some false) := by
    intro i ag hi
    refine iter_if i _ (fun k ag2 hk hp => ?_) (fun k ag2 hk hp => ?_) (fun ag2 => ?_) 1000 (by omega)
    · unfold ref03_Permutation_s2
      rw [if_pos (by omega), ckT (by omega), ckT (by omega), if_neg hp, wr (by omega) (by omega)]
    · unfold ref03_Permutation_s2
      rw [if_pos (by omega), ckT (by omega), ckT (by omega), if_pos (Decidable.not_not.1 hp)]
    · unfold ref03_Permutation_s2 ref03_Permutation_k2
      rw [if_neg (by omega), wr (by omega) (by omega)]
  have key := iter_if (step := ref03_Permutation_s1 1000 p n) (K := some true) (bad := false) n (PermAt p n) (fun i ag hi hp => ?_) (fun i ag hi hp => ?_) (fun ag => ?_) 1000 (by omega)
  · exact ⟨fun h => key.1 h.2, fun h => key.2 fun h2 => h ⟨hl, h2⟩⟩
  · unfold ref03_Permutation_s1
    rw [if_pos (by omega), ckT (by omega), wr (x := (n : Int) - 1) (by omega) (by omega), refIn_eq, decide_eq_true hp.1, bindS rfl, if_neg (by simp)]
    exact (inner i ag hi).1 hp.2
  · unfold ref03_Permutation_s1
    rw [if_pos (by omega), ckT (by omega), wr (x := (n : Int) - 1) (by omega) (by omega), refIn_eq]
    by_cases h1 : 0 ≤ at' p (i : Int) ∧ at' p (i : Int) ≤ (n : Int) - 1
    · rw [decide_eq_true h1, bindS rfl, if_neg (by simp)]
      exact (inner i ag hi).2 fun h4 => hp ⟨h1, h4⟩
    · rw [decide_eq_false h1]; rfl
  · unfold ref03_Permutation_s1 ref03_Permutation_k1
    rw [if_neg (by omega)]

theorem famPermutation_eq (p : List Int) (n : Nat) (hn : n ≤ 30) : (IsPerm p n → m_family_permutation 1000 p (n : Int) = some true) ∧ (¬ IsPerm p n → m_family_permutation 1000 p (n : Int) = some false) := by
  unfold m_family_permutation
  by_cases hl : p.length = n
  rotate_left
  · rw [if_pos (by omega)]
    exact ⟨fun h => absurd h.1 hl, fun _ => rfl⟩
  rw [if_neg (by omega), ckT (by omega)]
  have key := iter_ifS (step := family_permutation_s1 p n) (K := fun _ => some true) (bad := false) n (PermAt p n) (fun k x => x.1 = (k : Int) ∧ x.2.length = n ∧ ∀ z : Nat, z < n → (at' x.2 (z : Int) = true ↔ ∃ j, j < k ∧ at' p (j : Int) = (z : Int))) ?_ ?_ ?_ 1000 ((0 : Int), (List.replicate (Int.toNat (n : Int)) false)) ⟨rfl, by simp, fun z hz => ?_⟩ (by omega)
  · exact ⟨fun h => by obtain ⟨x, _, hx⟩ := key.1 h.2; exact hx, fun h => key.2 fun h2 => h ⟨hl, h2⟩⟩
  · rintro k ⟨x1, x2⟩ ag hk ⟨hx, hlen, hs⟩ ⟨hr, hd⟩
    dsimp only at hx hlen hs
    subst hx
    obtain ⟨z, hz⟩ : ∃ z : Nat, at' p (k : Int) = z := ⟨(at' p (k : Int)).toNat, by omega⟩
    have hz2 : z < n := by omega
    have hno : ¬ at' x2 (z : Int) = true := by
      rw [hs z hz2]
      rintro ⟨j, hj, he⟩
      exact hd j hj (he.trans hz.symm)
    refine ⟨((k : Int) + 1, x2.set z true), ⟨by simp, by simp [hlen], fun y hy => ?_⟩, ?_⟩
    · dsimp only
      rw [at_set _ _ _ _ (by omega)]
      by_cases hyz : y = z
      · subst hyz
        rw [if_pos rfl]
        exact ⟨fun _ => ⟨k, by omega, hz⟩, fun _ => rfl⟩
      · rw [if_neg hyz, hs y hy]
        constructor
        · rintro ⟨j, hj, he⟩; exact ⟨j, by omega, he⟩
        · rintro ⟨j, hj, he⟩
          by_cases hjk : j = k
          · subst hjk; rw [hz] at he; omega
          · exact ⟨j, by omega, he⟩
    · unfold family_permutation_s1 family_permutation_k2
      dsimp only
      rw [if_pos (by omega), ckT (by omega), hz, if_neg (by omega), if_neg (by omega), ckT (by omega), if_neg hno, ckT (by omega), wr (by omega) (by omega)]
      rfl
  · rintro k ⟨x1, x2⟩ ag hk ⟨hx, hlen, hs⟩ hp
    dsimp only at hx hlen hs
    subst hx
    unfold family_permutation_s1 family_permutation_k2
    dsimp only
    rw [if_pos (by omega), ckT (by omega)]
    by_cases h1 : at' p (k : Int) < 0
    · rw [if_pos h1, if_pos rfl]
    rw [if_neg h1]
    by_cases h2 : (n : Int) ≤ at' p (k : Int)
    · rw [if_pos h2, if_pos rfl]
    rw [if_neg h2]
    obtain ⟨z, hz⟩ : ∃ z : Nat, at' p (k : Int) = z := ⟨(at' p (k : Int)).toNat, by omega⟩
    rw [hz, ckT (by omega), if_pos]
    rw [hs z (by omega)]
    apply Classical.byContradiction
    intro hc
    exact hp ⟨by omega, fun j hj he => hc ⟨j, hj, he.trans hz⟩⟩
  · rintro ⟨x1, x2⟩ ag ⟨hx, _, _⟩
    dsimp only at hx
    subst hx
    unfold family_permutation_s1 family_permutation_k1
    dsimp only
    rw [if_neg (by omega)]
  · rw [Int.toNat_natCast, show at' (List.replicate n false) (z : Int) = false by rw [at'_nat, List.getD_eq_getElem?_getD, List.getElem?_replicate, if_pos hz]; rfl]
    exact ⟨fun h => (by cases h), fun ⟨j, hj, _⟩ => (by omega)⟩

/-! ## what is made -/
/-- the new number of a node -/
def pm (p : List Int) (v : Nat) : Nat := (at' p (v : Int)).toNat

theorem IsPerm.pm {p : List Int} {n : Nat} (h : IsPerm p n) {v : Nat} (hv : v < n) : at' p (v : Int) = (pm p v : Int) ∧ Go.Proofs.Ytemhmmcakmidkaa.pm p v < n := by
  have := (h.2 v hv).1
  unfold Go.Proofs.Ytemhmmcakmidkaa.pm
  omega
theorem IsPerm.inj {p : List Int} {n : Nat} (h : IsPerm p n) {v u : Nat} (hv : v < n) (hu : u < n) (e : Go.Proofs.Ytemhmmcakmidkaa.pm p v = Go.Proofs.Ytemhmmcakmidkaa.pm p u) : v = u := by
  have h1 := (h.pm hv).1
  have h2 := (h.pm hu).1
  rcases Nat.lt_trichotomy v u with hlt | hlt | hlt
  · exact absurd (by rw [h1, h2, e]) ((h.2 u hu).2 v hlt)
  · exact hlt
  · exact absurd (by rw [h1, h2, e]) ((h.2 v hv).2 u hlt)

/-- links whose nodes are renumbered -/
def mp (p : List Int) (l : List (Int × Int)) : List (Int × Int) := l.map fun x => (at' p x.1, x.2)

structure Rel (g : GR) (p : List Int) (h : GR) : Prop where
  len1 : h.1.length = g.2.length
  len2 : h.2.length = g.2.length
  ids : ∀ v, v < g.2.length → idOf h (pm p v) = idOf g v
  row : ∀ v, v < g.2.length → Go.Proofs.Ytemhmmcakmidkaa.row h (pm p v) = mp p (Go.Proofs.Ytemhmmcakmidkaa.row g v)

theorem mp_len (p : List Int) (l : List (Int × Int)) : (mp p l).length = l.length := by simp [mp]
theorem mp_at (p : List Int) (l : List (Int × Int)) {i : Nat} (h : i < l.length) : lnk (mp p l) i = (at' p (lnk l i).1, (lnk l i).2) := by
  rw [lnk, lnk, mp, at'_nat, at'_nat, List.getD_eq_getElem?_getD, List.getD_eq_getElem?_getD, List.getElem?_map, List.getElem?_eq_getElem h]; rfl
theorem mp_take (p : List Int) (l : List (Int × Int)) {i : Nat} (h : i < l.length) : mp p (l.take (i + 1)) = mp p (l.take i) ++ [(at' p (lnk l i).1, (lnk l i).2)] := by
  unfold mp
  rw [List.take_add_one, List.map_append, List.getElem?_eq_getElem h, show lnk l i = l[i] by rw [lnk, at'_nat, List.getD_eq_getElem?_getD, List.getElem?_eq_getElem h]; rfl]
  rfl

theorem set_same {α : Type} [Inhabited α] {l : List α} {i : Nat} (h : i < l.length) : l.set i (at' l (i : Int)) = l := by
  rw [at'_nat, List.getD_eq_getElem?_getD, List.getElem?_eq_getElem h]
  exact List.set_getElem_self h

/-- the state of the loop over the nodes -/
structure RInv (g : GR) (p : List Int) (v : Nat) (ids : List Int) (ps : List (List (Int × Int))) : Prop where
  l1 : ids.length = g.2.length
  l2 : ps.length = g.2.length
  d1 : ∀ k, k < v → at' ids ((pm p k : Nat) : Int) = idOf g k
  d2 : ∀ k, k < v → at' ps ((pm p k : Nat) : Int) = mp p (row g k)
  d3 : ∀ k, v ≤ k → k < g.2.length → at' ps ((pm p k : Nat) : Int) = []

theorem RInv.next {g : GR} {p : List Int} (hp : IsPerm p g.2.length) {v : Nat} (hv : v < g.2.length) {ids : List Int} {ps : List (List (Int × Int))} (h : RInv g p v ids ps) : RInv g p (v + 1) (ids.set (pm p v) (idOf g v)) (ps.set (pm p v) (mp p (row g v))) := by
  have hpv := (hp.pm hv).2
  have h1 := h.l1
  have h2 := h.l2
  refine ⟨by simpa using h1, by simpa using h2, fun k hk => ?_, fun k hk => ?_, fun k hk hn => ?_⟩
  · rw [at_set _ _ _ _ (by omega)]
    by_cases e : k = v
    · subst e; rw [if_pos rfl]
    · rw [if_neg (fun e2 => e (hp.inj (by omega) hv e2))]; exact h.d1 k (by omega)
  · rw [at_set _ _ _ _ (by omega)]
    by_cases e : k = v
    · subst e; rw [if_pos rfl]
    · rw [if_neg (fun e2 => e (hp.inj (by omega) hv e2))]; exact h.d2 k (by omega)
  · rw [at_set _ _ _ _ (by omega), if_neg (fun e2 => by have := hp.inj (by omega) hv e2; omega)]; exact h.d3 k (by omega) hn

theorem RInv.start {g : GR} {p : List Int} (hp : IsPerm p g.2.length) : RInv g p 0 (iota g.2.length) (List.replicate g.2.length []) := by
  refine ⟨iota_len _, by simp, fun k hk => by omega, fun k hk => by omega, fun k _ hk => ?_⟩
  rw [at'_nat, List.getD_eq_getElem?_getD, List.getElem?_replicate, if_pos (hp.pm hk).2]; rfl

theorem RInv.done {g : GR} {p : List Int} {ids : List Int} {ps : List (List (Int × Int))} (h : RInv g p g.2.length ids ps) : Rel g p (ids, ps) :=
  ⟨h.l1, h.l2, fun v hv => h.d1 v hv, fun v hv => h.d2 v hv⟩

theorem famRelabel_ok {g : GR} (hV : VG g) {p : List Int} (hp : IsPerm p g.2.length) : OK (fun r : GR × Int => r.2 = 0 ∧ Rel g p r.1) (m_family_Relabel 1000 g p) := by
  have h24 := hV.n24
  have hlen := hV.len
  have hpl := hp.1
  unfold m_family_Relabel
  rw [bindS ((valid_eq g hV.light).1 hV), if_neg (by simp), hlen, bindS ((famPermutation_eq p g.2.length (by omega)).1 hp), if_neg (by simp), bindS (empty_eq g.2.length h24)]
  dsimp only
  refine iter_ok (fun z : Int × List Int × List (List (Int × Int)) => ∃ v : Nat, z.1 = v ∧ v ≤ g.2.length ∧ RInv g p v z.2.1 z.2.2) (fun z => 25 - z.1.toNat) ?_ 1000 _ ⟨0, rfl, by omega, RInv.start hp⟩ (by simp)
  rintro ⟨x, ids, ps⟩ ag ⟨v, hx, hv, hI⟩ hag
  dsimp only at hx hI hag
  subst hx
  unfold family_Relabel_s1
  dsimp only
  by_cases hn : v < g.2.length
  · obtain ⟨e1, e2⟩ := hp.pm hn
    have l1 := hI.l1
    have l2 := hI.l2
    have hdeg := (hV.node v hn).deg
    have q1 : (at' g.2 (v : Int)).length = (row g v).length := rfl
    rw [if_pos (by omega), ckT (by omega), ckT (by omega), ckT (by omega), ckT (by rw [e1]; omega)]
    have h0 : ps = ps.set (pm p v) (mp p ((row g v).take 0)) := by
      have := hI.d3 v (Nat.le_refl _) hn
      show ps = ps.set (pm p v) []
      rw [← this]; exact (set_same (by omega)).symm
    refine iter_ok (fun z : Int × List (List (Int × Int)) => ∃ i : Nat, z.1 = i ∧ i ≤ (row g v).length ∧ z.2 = ps.set (pm p v) (mp p ((row g v).take i))) (fun z => 25 - z.1.toNat) ?_ 1000 _ ⟨0, rfl, by omega, h0⟩ (by simp)
    rintro ⟨y, qs⟩ ag2 ⟨i, hy, hi, hq⟩ hag2
    dsimp only at hy hq hag2
    subst hy hq
    have lq : (ps.set (pm p v) (mp p ((row g v).take i))).length = g.2.length := by simpa using l2
    have aq : at' (ps.set (pm p v) (mp p ((row g v).take i))) (at' p (v : Int)) = mp p ((row g v).take i) := by
      rw [e1, at_set _ _ _ _ (by omega), if_pos rfl]
    unfold family_Relabel_s2
    dsimp only
    by_cases hi2 : i < (row g v).length
    · have hlk := ((hV.node v hn).links i hi2).1
      have q2 : (at' (at' g.2 (v : Int)) (i : Int)).1 = (lnk (row g v) i).1 := rfl
      rw [if_pos (by omega), ckT (by omega), ckT (by omega), ckT (by omega), ckT (by rw [e1, lq]; omega), ckT (by omega), aq, ckT (by rw [mp_len]; simp; omega), ckT (by rw [e1, List.length_set, lq]; omega), wr (by omega) (by omega)]
      refine hag2 _ ⟨i + 1, by dsimp only; omega, by omega, ?_⟩ (by dsimp only; omega)
      dsimp only
      rw [e1, Int.toNat_natCast, List.set_set, mp_take p _ hi2]
    · rw [if_neg (by omega)]
      obtain rfl : i = (row g v).length := by omega
      unfold family_Relabel_k2
      dsimp only
      rw [wr (by omega) (by omega), e1, Int.toNat_natCast, List.take_length]
      exact hag _ ⟨v + 1, by dsimp only; omega, by omega, hI.next hp hn⟩ (by dsimp only; omega)
  · rw [if_neg (by omega)]
    obtain rfl : v = g.2.length := by omega
    exact ⟨_, rfl, rfl, hI.done⟩

theorem refRelabel_ok {g : GR} (hV : VG g) {p : List Int} (hp : IsPerm p g.2.length) : OK (fun r : GR × Int => r.2 = 0 ∧ Rel g p r.1) (m_ref03_Relabel 1000 g p) := by
  have h24 := hV.n24
  have hlen := hV.len
  have hpl := hp.1
  unfold m_ref03_Relabel
  rw [bindS ((refValid_eq g hV.light).1 hV), if_neg (by simp), bindS ((refPermutation_eq p g.2.length (by omega)).1 hp), if_neg (by simp), hpl, bindS (plain_eq g.2.length h24)]
  dsimp only
  refine iter_ok (fun z : Int × List Int × List (List (Int × Int)) => ∃ v : Nat, z.1 = v ∧ v ≤ g.2.length ∧ RInv g p v z.2.1 z.2.2) (fun z => 25 - z.1.toNat) ?_ 1000 _ ⟨0, rfl, by omega, RInv.start hp⟩ (by simp)
  rintro ⟨x, ids, ps⟩ ag ⟨v, hx, hv, hI⟩ hag
  dsimp only at hx hI hag
  subst hx
  unfold ref03_Relabel_s1
  dsimp only
  by_cases hn : v < g.2.length
  · obtain ⟨e1, e2⟩ := hp.pm hn
    have l1 := hI.l1
    have l2 := hI.l2
    have hdeg := (hV.node v hn).deg
    have q1 : (at' g.2 (v : Int)).length = (row g v).length := rfl
    rw [if_pos (by omega), ckT (by omega), ckT (by omega), ckT (by rw [e1]; omega)]
    have h0 : ps = ps.set (pm p v) (mp p ((row g v).take 0)) := by
      have := hI.d3 v (Nat.le_refl _) hn
      show ps = ps.set (pm p v) []
      rw [← this]; exact (set_same (by omega)).symm
    refine iter_ok (fun z : Int × List (List (Int × Int)) => ∃ i : Nat, z.1 = i ∧ i ≤ (row g v).length ∧ z.2 = ps.set (pm p v) (mp p ((row g v).take i))) (fun z => 25 - z.1.toNat) ?_ 1000 _ ⟨0, rfl, by omega, h0⟩ (by simp)
    rintro ⟨y, qs⟩ ag2 ⟨i, hy, hi, hq⟩ hag2
    dsimp only at hy hq hag2
    subst hy hq
    have lq : (ps.set (pm p v) (mp p ((row g v).take i))).length = g.2.length := by simpa using l2
    have aq : at' (ps.set (pm p v) (mp p ((row g v).take i))) (at' p (v : Int)) = mp p ((row g v).take i) := by
      rw [e1, at_set _ _ _ _ (by omega), if_pos rfl]
    unfold ref03_Relabel_s2
    dsimp only
    rw [ckT (by omega)]
    by_cases hi2 : i < (row g v).length
    · have hlk := ((hV.node v hn).links i hi2).1
      have q2 : (at' (at' g.2 (v : Int)) (i : Int)).1 = (lnk (row g v) i).1 := rfl
      rw [if_pos (by omega), ckT (by omega), ckT (by omega), ckT (by rw [e1, lq]; omega), ckT (by omega), ckT (by omega), ckT (by omega), ckT (by omega), ckT (by omega), aq, ckT (by rw [mp_len]; simp; omega), ckT (by rw [e1, List.length_set, lq]; omega), wr (by omega) (by omega)]
      refine hag2 _ ⟨i + 1, by dsimp only; omega, by omega, ?_⟩ (by dsimp only; omega)
      dsimp only
      rw [e1, Int.toNat_natCast, List.set_set, mp_take p _ hi2]
    · rw [if_neg (by omega)]
      obtain rfl : i = (row g v).length := by omega
      unfold ref03_Relabel_k2
      dsimp only
      rw [wr (by omega) (by omega), e1, Int.toNat_natCast, List.take_length]
      exact hag _ ⟨v + 1, by dsimp only; omega, by omega, hI.next hp hn⟩ (by dsimp only; omega)
  · rw [if_neg (by omega)]
    obtain rfl : v = g.2.length := by omega
    exact ⟨_, rfl, rfl, hI.done⟩

/-! ## every number is a new number -/
theorem IsPerm.onto {p : List Int} {n : Nat} (h : IsPerm p n) {u : Nat} (hu : u < n) : ∃ v, v < n ∧ Go.Proofs.Ytemhmmcakmidkaa.pm p v = u := by
  apply Classical.byContradiction
  intro hc
  have hne : ∀ v, v < n → Go.Proofs.Ytemhmmcakmidkaa.pm p v ≠ u := fun v hv e => hc ⟨v, hv, e⟩
  -- n numbers below n, none of them u: move those above u down
  have := pigeon (n - 1) (fun v => if Go.Proofs.Ytemhmmcakmidkaa.pm p v < u then Go.Proofs.Ytemhmmcakmidkaa.pm p v else Go.Proofs.Ytemhmmcakmidkaa.pm p v - 1) n (fun i hi => ?_) (fun i j hij hj => ?_)
  · omega
  · have h1 := (h.pm hi).2
    have h2 := hne i hi
    split <;> omega
  · have h1 := hne i (by omega)
    have h2 := hne j hj
    have h3 : Go.Proofs.Ytemhmmcakmidkaa.pm p i ≠ Go.Proofs.Ytemhmmcakmidkaa.pm p j := fun e => by have := h.inj (by omega) hj e; omega
    split <;> split <;> omega

theorem gr_ext {a b : GR} (h1 : a.1.length = b.1.length) (h2 : a.2.length = b.2.length) (e1 : ∀ v, v < a.1.length → idOf a v = idOf b v) (e2 : ∀ v, v < a.2.length → row a v = row b v) : a = b := by
  have x1 : a.1 = b.1 := List.ext_getElem h1 fun i hi hi' => by
    have := e1 i hi
    rw [idOf, idOf, at'_nat, at'_nat, List.getD_eq_getElem?_getD, List.getD_eq_getElem?_getD, List.getElem?_eq_getElem hi, List.getElem?_eq_getElem hi'] at this
    exact this
  have x2 : a.2 = b.2 := List.ext_getElem h2 fun i hi hi' => by
    have := e2 i hi
    rw [row, row, at'_nat, at'_nat, List.getD_eq_getElem?_getD, List.getD_eq_getElem?_getD, List.getElem?_eq_getElem hi, List.getElem?_eq_getElem hi'] at this
    exact this
  exact Prod.ext x1 x2

theorem Rel.unique {g h h' : GR} {p : List Int} (hp : IsPerm p g.2.length) (r : Rel g p h) (r' : Rel g p h') : h = h' := by
  refine gr_ext (r.len1.trans r'.len1.symm) (r.len2.trans r'.len2.symm) (fun u hu => ?_) (fun u hu => ?_)
  · rw [r.len1] at hu
    obtain ⟨v, hv, rfl⟩ := hp.onto hu
    rw [r.ids v hv, r'.ids v hv]
  · rw [r.len2] at hu
    obtain ⟨v, hv, rfl⟩ := hp.onto hu
    rw [r.row v hv, r'.row v hv]

theorem Rel.link {g h : GR} {p : List Int} (hV : VG g) (hp : IsPerm p g.2.length) (r : Rel g p h) {v i : Nat} (hv : v < g.2.length) (hi : i < (Go.Proofs.Ytemhmmcakmidkaa.row g v).length) :
    ∃ u : Nat, u < g.2.length ∧ (lnk (Go.Proofs.Ytemhmmcakmidkaa.row g v) i).1 = (u : Int) ∧ lnk (Go.Proofs.Ytemhmmcakmidkaa.row h (pm p v)) i = ((pm p u : Int), (lnk (Go.Proofs.Ytemhmmcakmidkaa.row g v) i).2) := by
  obtain ⟨u, hu, he, _⟩ := hV.port hv hi
  refine ⟨u, hu, he, ?_⟩
  rw [r.row v hv, mp_at p _ hi, he, (hp.pm hu).1]

theorem Rel.valid {g h : GR} {p : List Int} (hV : VG g) (hp : IsPerm p g.2.length) (r : Rel g p h) : VG h := by
  have h24 := hV.n24
  have h1 := hV.n1
  have l1 := r.len1
  have l2 := r.len2
  have deg : ∀ v, v < g.2.length → (Go.Proofs.Ytemhmmcakmidkaa.row h (pm p v)).length = (Go.Proofs.Ytemhmmcakmidkaa.row g v).length := fun v hv => by rw [r.row v hv, mp_len]
  refine ⟨by omega, by omega, by omega, fun w hw => ?_, fun w hw i hi => ?_⟩
  · rw [l2] at hw
    obtain ⟨v, hv, rfl⟩ := hp.onto hw
    have hN := hV.node v hv
    refine ⟨by rw [r.ids v hv]; exact hN.id, by rw [deg v hv, l2]; exact hN.deg, fun i hi => ?_, fun k hk => ?_⟩
    · rw [deg v hv] at hi
      obtain ⟨u, hu, e1, e2⟩ := r.link hV hp hv hi
      have hL := hN.links i hi
      rw [l2]
      refine ⟨by rw [e2]; have := (hp.pm hu).2; dsimp only; omega, ?_, by rw [e2]; exact hL.2.2.1, fun k hk => ?_⟩
      · rw [e2]
        intro e
        have : u = v := hp.inj hu hv (by dsimp only at e; omega)
        exact hL.2.1 (by rw [e1, this])
      · obtain ⟨u', hu', e1', e2'⟩ := r.link hV hp hv (show k < _ by omega)
        rw [e2, e2']
        intro e
        have : u' = u := hp.inj hu' hu (by dsimp only at e; omega)
        exact hL.2.2.2 k hk (by rw [e1, e1', this])
    · obtain ⟨v', hv', rfl⟩ := hp.onto (show k < g.2.length by omega)
      rw [r.ids v hv, r.ids v' hv']
      rcases Nat.lt_trichotomy v v' with hlt | hlt | hlt
      · exact fun e => (hV.node v' hv').ids v hlt e.symm
      · subst hlt; omega
      · exact hN.ids v' hlt
  · rw [l2] at hw
    obtain ⟨v, hv, rfl⟩ := hp.onto hw
    rw [deg v hv] at hi
    obtain ⟨u, hu, e1, e2⟩ := r.link hV hp hv hi
    obtain ⟨j, hj, j1, j2⟩ := hV.sym v hv i hi
    rw [e1] at hj j1 j2
    obtain ⟨u', hu', f1, f2⟩ := r.link hV hp hu hj
    have huv : u' = v := by
      have : (u' : Int) = (v : Int) := f1.symm.trans j1
      omega
    subst huv
    unfold SymAt
    rw [e2]
    dsimp only
    have hj' : j < (at' h.2 ((pm p u : Nat) : Int)).length := by rw [deg u hu]; exact hj
    refine ⟨j, hj', ?_, ?_⟩
    · show (lnk (Go.Proofs.Ytemhmmcakmidkaa.row h (pm p u)) j).1 = _
      rw [f2]
    · show (lnk (Go.Proofs.Ytemhmmcakmidkaa.row h (pm p u)) j).2 = _
      rw [f2]
      exact j2

theorem Rel.adj {g h : GR} {p : List Int} (hV : VG g) (hp : IsPerm p g.2.length) (r : Rel g p h) {v u : Nat} (hv : v < g.2.length) (hu : u < g.2.length) : Adj h (pm p v) (pm p u) ↔ Adj g v u := by
  constructor
  · rintro ⟨i, hi, he⟩
    rw [r.row v hv, mp_len] at hi
    obtain ⟨w, hw, e1, e2⟩ := r.link hV hp hv hi
    rw [e2] at he
    have : w = u := hp.inj hw hu (by dsimp only at he; omega)
    subst this
    exact ⟨i, hi, e1⟩
  · rintro ⟨i, hi, he⟩
    obtain ⟨w, hw, e1, e2⟩ := r.link hV hp hv hi
    have : w = u := by
      have : (w : Int) = u := e1.symm.trans he
      omega
    subst this
    exact ⟨i, by rw [r.row v hv, mp_len]; exact hi, by rw [e2]⟩
end Go.Proofs.Ytemhmmcakmidkaa
end
section
set_option linter.unusedVariables false
set_option linter.unusedSimpArgs false
namespace Go.Proofs.Ytemhmmcakmidkaa
open Go.Sx
abbrev GG := List Int × List (List (Int × Int))

theorem awakeK : m_law03_awake 1000 = some true := by kernel_rfl
end Go.Proofs.Ytemhmmcakmidkaa
end
section
set_option linter.unusedVariables false
set_option linter.unusedSimpArgs false
namespace Go.Proofs.Ytemhmmcakmidkaa
open Go.Sx
set_option linter.unusedVariables false
/-- a graph of a size that a loop of the laws can go through -/
def small (g : GG) : Prop := g.1.length ≤ 900 ∧ g.2.length ≤ 900 ∧ ∀ l ∈ g.2, l.length ≤ 900

theorem at_mem {α : Type} [Inhabited α] (l : List α) (i : Int) (h0 : 0 ≤ i) (h1 : i < l.length) : at' l i ∈ l := List.mem_of_getElem? (at'_some h0 h1)

theorem same_refl (g : GG) (h : small g) : m_ref01_Same 1000 g g = some true := by
  obtain ⟨h1, h2, h3⟩ := h
  unfold m_ref01_Same ref01_Same_k1
  rw [if_neg (by simp), if_neg (by simp)]
  refine iter_eq (fun i : Int => 0 ≤ i ∧ i ≤ g.1.length) (fun i : Int => g.1.length - i.toNat) ?_ 1000 _ (by omega) (by omega)
  rintro i ag ⟨i0, i1⟩ hag
  unfold ref01_Same_s3
  by_cases hi : i < g.1.length
  · rw [if_pos hi, ckT ⟨i0, hi⟩, ckT ⟨i0, hi⟩, if_neg (by simp), wr (by omega) (by omega)]
    exact hag _ (by omega) (by omega)
  · rw [if_neg hi]
    unfold ref01_Same_k2
    refine iter_eq (fun i : Int => 0 ≤ i ∧ i ≤ g.2.length) (fun i : Int => g.2.length - i.toNat) ?_ 1000 _ (by omega) (by omega)
    rintro v ag ⟨v0, v1⟩ hag
    unfold ref01_Same_s1
    by_cases hv : v < g.2.length
    · have hrow := h3 _ (at_mem g.2 v v0 hv)
      rw [if_pos hv, ckT ⟨v0, hv⟩, ckT ⟨v0, hv⟩, if_neg (by simp)]
      refine iter_eq (fun i : Int => 0 ≤ i ∧ i ≤ (at' g.2 v).length) (fun i : Int => (at' g.2 v).length - i.toNat) ?_ 1000 _ (by omega) (by omega)
      rintro i ag2 ⟨i0, i1⟩ hag2
      unfold ref01_Same_s2
      rw [ckT ⟨v0, hv⟩]
      by_cases hi : i < (at' g.2 v).length
      · rw [if_pos hi, ckT ⟨v0, hv⟩, ckT ⟨i0, hi⟩, ckT ⟨v0, hv⟩, ckT ⟨i0, hi⟩, if_neg (by simp), wr (by omega) (by omega)]
        exact hag2 _ (by omega) (by omega)
      · rw [if_neg hi]
        unfold ref01_Same_k4
        rw [wr (by omega) (by omega)]
        exact hag _ (by omega) (by omega)
    · rw [if_neg hv]; rfl

/-! ## Complete graphs -/
/-! ## Grids -/
end Go.Proofs.Ytemhmmcakmidkaa
end
section
set_option linter.unusedVariables false
set_option linter.unusedSimpArgs false
namespace Go.Proofs.Ytemhmmcakmidkaa
open Go.Sx
theorem VG.small {g : GR} (h : VG g) : small g := by
  have h24 := h.n24
  refine ⟨by have := h.len; omega, by omega, fun l hl => ?_⟩
  obtain ⟨v, hv, he⟩ := List.getElem_of_mem hl
  have hd := (h.node v hv).deg
  rw [row, at'_nat, List.getD_eq_getElem?_getD, List.getElem?_eq_getElem hv] at hd
  rw [← he]
  simp only [Option.getD_some] at hd
  omega

theorem Rel.walk {g h : GR} {p : List Int} (hV : VG g) (hp : IsPerm p g.2.length) (r : Rel g p h) {s : Nat} : ∀ (k v : Nat), Walk g s k v → Walk h (pm p s) k (pm p v)
  | 0, v, hw => by
    obtain ⟨rfl, hs⟩ := hw
    exact ⟨rfl, by rw [r.len2]; exact (hp.pm hs).2⟩
  | k + 1, v, hw => by
    obtain ⟨u, h1, h2⟩ := hw
    have hu := Walk.lt hV h1
    exact ⟨pm p u, Rel.walk hV hp r k u h1, (r.adj hV hp hu (hV.adj_lt hu h2)).2 h2⟩

/-- the inverse of a permutation -/
def IsInv (p q : List Int) (n : Nat) : Prop := q.length = n ∧ ∀ v, v < n → at' q ((pm p v : Nat) : Int) = (v : Int)

theorem Rel.back {g h k : GR} {p q : List Int} (hV : VG g) (hp : IsPerm p g.2.length) (hq : IsInv p q g.2.length) (r : Rel g p h) (r2 : Rel h q k) : k = g := by
  have l2 := r.len2
  have key : ∀ v, v < g.2.length → pm q (pm p v) = v := fun v hv => by
    have := hq.2 v hv
    show (at' q ((pm p v : Nat) : Int)).toNat = v
    omega
  refine gr_ext (by rw [r2.len1, l2, hV.len]) (by rw [r2.len2, l2]) (fun v hv => ?_) (fun v hv => ?_)
  · rw [r2.len1, l2] at hv
    have := r2.ids (pm p v) (by rw [l2]; exact (hp.pm hv).2)
    rw [key v hv, r.ids v hv] at this
    exact this
  · rw [r2.len2, l2] at hv
    have := r2.row (pm p v) (by rw [l2]; exact (hp.pm hv).2)
    rw [key v hv, r.row v hv] at this
    rw [this]
    unfold mp
    rw [List.map_map]
    refine List.ext_getElem (by simp) fun i hi hi' => ?_
    rw [List.getElem_map]
    have hl : lnk (Go.Proofs.Ytemhmmcakmidkaa.row g v) i = (Go.Proofs.Ytemhmmcakmidkaa.row g v)[i] := by rw [lnk, at'_nat, List.getD_eq_getElem?_getD, List.getElem?_eq_getElem hi']; rfl
    obtain ⟨u, hu, e1, _⟩ := hV.port hv hi'
    rw [hl] at e1
    show (at' q (at' p (Go.Proofs.Ytemhmmcakmidkaa.row g v)[i].1), (Go.Proofs.Ytemhmmcakmidkaa.row g v)[i].2) = _
    rw [e1, (hp.pm hu).1, hq.2 u hu]
    exact Prod.ext e1.symm rfl

end Go.Proofs.Ytemhmmcakmidkaa
end
section
set_option linter.unusedVariables false
set_option linter.unusedSimpArgs false
namespace Go.Proofs.Ytemhmmcakmidkaa
open Go.Sx
set_option linter.unusedVariables false
set_option linter.unusedSimpArgs false
def m_slices_Clone (fuel : Nat) (p0 : List (Int)) : Option (List (Int)) :=
  ck ((List.length ([] : List Int) : Int) + (List.length p0 : Int) ≤ 1099511627) (some (([] : List Int) ++ p0))

theorem body88 : HasBody Try.prog 88 := Try.call88

set_option maxHeartbeats 4000000 in
set_option maxRecDepth 20000 in
theorem t_slices_Clone (fuel : Nat) {p0 : List (Int)} (v0 : Value) (r : List (Int)) (h : m_slices_Clone fuel p0 = some r) :
    Meets Try.prog 88 #[v0] [Sl RI64 v0 p0] (fun x : Value => x) (fun x l => Ar EI64 x r :: l) (fun _ l => l) := by
  refine Meets.of (vs := [v0]) Try.func88 rfl Try.ntmps88 rfl fun c => ?_
  unfold m_slices_Clone at h
  refine J.seq ?_
  refine J.region ?_
  refine J.quiet (Y.assign rfl) rfl ?_
  refine J.done ?_
  refine J.thenN ?_
  refine J.seq ?_
  refine J.seq ?_
  refine J.region ?_
  refine J.quiet (Y.move rfl) rfl ?_
  refine J.nilCase (Lent.fact 0 rfl) (fun hn1 hx2 => ?_) (fun hn1 => ?_)
  · replace h : (some ([] : List Int)) = some r := by simpa [ck, hx2] using h
    refine J.quiet (Y.eqNil rfl (Lent.fact 0 rfl) hn1 rfl) rfl ?_
    refine J.done ?_
    refine J.thenN ?_
    refine J.condT rfl ?_
    refine J.seq ?_
    refine J.region ?_
    refine J.quiet (Y.assign rfl) rfl ?_
    refine J.done ?_
    refine J.thenN ?_
    refine J.ret ?_
    refine J.thenR ?_
    refine J.stp (Stp.nilAr EI64) ?_
    obtain rfl := Option.some.inj h
    exact J.retG1 (Value.slice none 0 0) rfl rfl (RV.tmp rfl) (SubM.refl _) LentAll.nil
  · refine J.quiet (Y.eqNil rfl (Lent.fact 0 rfl) hn1 rfl) rfl ?_
    refine J.done ?_
    refine J.thenN ?_
    refine J.condF rfl ?_
    refine J.skip ?_
    refine J.thenN ?_
    refine J.seq ?_
    refine J.region ?_
    refine J.loud (Loud.buildS (e := EI64) ([] : List Int) [] rfl rfl rfl rfl ((fun i h => by simp at h; subst h; rfl)) rfl rfl rfl) rfl fun u3 => ?_
    refine J.quiet (Y.move rfl) rfl ?_
    replace h := ck_some h; obtain ⟨hc5, h⟩ := h
    refine J.loud (Loud.appendL 0 FI64 rfl rfl rfl (Lent.fact 0 rfl) rfl rfl rfl rfl hc5 rfl) rfl fun u4 => ?_
    refine J.quiet (Y.assign rfl) rfl ?_
    refine J.done ?_
    refine J.thenN ?_
    refine J.ret ?_
    obtain rfl := Option.some.inj h
    exact J.retG1 (u4) rfl rfl (RV.tmp rfl) (SubM.refl _) LentAll.nil

end Go.Proofs.Ytemhmmcakmidkaa
end
section
set_option linter.unusedVariables false
set_option linter.unusedSimpArgs false
namespace Go.Proofs.Ytemhmmcakmidkaa
open Go.Sx
set_option linter.unusedVariables false
set_option linter.unusedSimpArgs false
def family_copied_k1  (a5 : (List (List (Int × Int)))) : Option ((List (List (Int × Int)))) :=
  some (a5)
def family_copied_s1 (p0 : List (List (Int × Int))) (a11 : Int × (List (List (Int × Int)))) (ag10 : (Int × (List (List (Int × Int)))) → Option ((List (List (Int × Int))))) : Option ((List (List (Int × Int)))) :=
  if a11.1 < (List.length p0 : Int) then (ck (0 ≤ a11.1 ∧ a11.1 < (List.length p0 : Int)) (ck ((List.length ([] : List (Int × Int)) : Int) + (List.length (at' p0 a11.1) : Int) ≤ 1099511627) (ck (0 ≤ a11.1 ∧ a11.1 < (List.length a11.2 : Int)) (ag10 ((wI .i64 (a11.1 + (1 : Int))), (List.set a11.2 (Int.toNat a11.1) (([] : List (Int × Int)) ++ (at' p0 a11.1)))))))) else (family_copied_k1  (a11.2))
def m_family_copied (fuel : Nat) (p0 : List (List (Int × Int))) : Option ((List (List (Int × Int)))) :=
  ck (0 ≤ (List.length p0 : Int) ∧ (List.length p0 : Int) ≤ 1099511627) (iter (family_copied_s1 p0) fuel ((0 : Int), (List.replicate (Int.toNat (List.length p0 : Int)) ([] : List (Int × Int)))))

theorem body89 : HasBody Try.prog 89 := Try.call89

set_option maxHeartbeats 4000000 in
set_option maxRecDepth 20000 in
theorem t_family_copied (fuel : Nat) {p0 : List (List (Int × Int))} (v0 : Value)  (z1 : List (Value × List (Int × Int))) (r : (List (List (Int × Int)))) (h : m_family_copied fuel p0 = some r) :
    Meets Try.prog 89 #[v0] [S2 RI64I64p v0 z1 p0] (fun x : Value × List Value => x.1) (fun x l => Ar Enc.raw x.1 x.2 :: Rws EI64I64p x.2 r :: l) (fun _ l => l) := by
  refine Meets.of (vs := [v0]) Try.func89 rfl Try.ntmps89 rfl fun c => ?_
  unfold m_family_copied at h
  refine J.seq ?_
  refine J.region ?_
  refine J.quiet (Y.assign rfl) rfl ?_
  refine J.done ?_
  refine J.thenN ?_
  refine J.seq ?_
  refine J.region ?_
  refine J.quiet (Y.move rfl) rfl ?_
  refine J.quiet (Y.lenN rfl (Lent.fact 0 rfl) rfl) rfl ?_
  replace h := ck_some h; obtain ⟨hc1, h⟩ := h
  refine J.stp (Stp.rowsNew EI64I64p (Int.toNat (List.length p0 : Int))) ?_
  refine J.loud (Loud.makeS (e := Enc.raw) (Value.slice none 0 0) rfl rfl rfl rfl hc1 rfl rfl rfl) rfl fun u2 => ?_
  refine J.quiet (Y.assign rfl) rfl ?_
  refine J.done ?_
  refine J.thenN ?_
  refine J.seq ?_
  refine J.midI (A := (List (List (Int × Int)))) (B := List Value) (fun a5 => family_copied_k1  a5 = some r) (fun a5 b6 => [(3, u2)]) (fun a5 b6 => [Ar Enc.raw u2 b6, Rws EI64I64p b6 a5]) (fun a5 b6 => [S2 RI64I64p v0 z1 p0]) ?_ ?_
  · refine J.seq ?_
    refine J.region ?_
    refine J.quiet (Y.move rfl) rfl ?_
    refine J.quiet (Y.lenN rfl (Lent.fact 0 rfl) rfl) rfl ?_
    refine J.quiet (Y.move rfl) rfl ?_
    refine J.done ?_
    refine J.thenN ?_
    refine J.block ?_
    refine J.loopI (A := Int × (List (List (Int × Int)))) (B := List Value) (family_copied_s1 p0) (fun a11 b12 => [(3, u2), (9, v0), (10, Value.int .i64 (List.length p0 : Int)), (11, Value.int .i64 (a11.1))]) (fun a11 b12 => [Ar Enc.raw u2 b12, Rws EI64I64p b12 a11.2]) (fun a11 b12 => [S2 RI64I64p v0 z1 p0]) ((0 : Int), (List.replicate (Int.toNat (List.length p0 : Int)) ([] : List (Int × Int)))) (List.replicate (Int.toNat (List.length p0 : Int)) (Value.slice none 0 0)) h (by repeat (first | exact SubF.nil | refine SubF.cons rfl ?_)) (SubM.refl _) (LentAll.refl _ _) ?_
    clear h
    intro k13 a11 b12 h
    unfold family_copied_s1 at h
    refine J.seq ?_
    refine J.region ?_
    refine J.quiet (Y.lss rfl rfl) rfl ?_
    refine J.done ?_
    refine J.thenN ?_
    refine J.seq ?_
    refine J.condD (by exact rfl) (fun hp14 => ?_) (fun hp14 => ?_)
    · replace h := ifP hp14 h
      refine J.skip ?_
      refine J.thenN ?_
      refine J.seq ?_
      refine J.block ?_
      refine J.seq ?_
      refine J.region ?_
      refine J.quiet (Y.move rfl) rfl ?_
      replace h := ck_some h; obtain ⟨hc15, h⟩ := h
      refine J.quiet (Y.indexN rfl rfl (Lent.fact 0 rfl) rfl rfl hc15) rfl ?_
      refine J.quiet (Y.loadRow rfl (Lent.fact 0 rfl) rfl rfl hc15) rfl ?_
      refine J.quiet (Y.assign rfl) rfl ?_
      refine J.quiet (Y.assign rfl) rfl ?_
      refine J.done ?_
      refine J.thenN ?_
      refine J.region ?_
      refine J.quiet (Y.move rfl) rfl ?_
      refine J.quiet (Y.move rfl) rfl ?_
      refine J.quiet (Y.move rfl) rfl ?_
      refine J.stp (Stp.nilAr EI64I64p) ?_
      replace h := ck_some h; obtain ⟨hc17, h⟩ := h
      refine J.loud (Loud.appendL 0 FI64I64p rfl rfl rfl (Lent.el (Lent.fact 0 rfl) hc15.1 hc15.2) rfl rfl rfl rfl hc17 rfl) rfl fun u16 => ?_
      replace h := ck_some h; obtain ⟨hc18, h⟩ := h
      refine J.quiet (Y.indexN rfl rfl (Lent.rows (i := 1) (j := 2) rfl rfl FI64I64p) rfl rfl hc18) rfl ?_
      refine J.know (Know.one ((Lent.ar (Lent.res 0 rfl) FI64I64p))) fun ho19 => ?_
      refine J.stp (Stp.putRow (k := a11.1) 2 0 rfl rfl rfl hc18) ?_
      refine J.storeRow 0 1 ⟨hc18.1, by simpa using hc18.2⟩ rfl rfl rfl rfl rfl (by simp) ho19 rfl ?_
      refine J.done ?_
      refine J.inN ?_
      refine J.thenN ?_
      refine J.region ?_
      refine J.quiet (Y.addW rfl rfl) rfl ?_
      refine J.quiet (Y.move rfl) rfl ?_
      refine J.done ?_
      refine J.thenN ?_
      exact J.againI ((wI .i64 (a11.1 + (1 : Int))), (List.set a11.2 (Int.toNat a11.1) (([] : List (Int × Int)) ++ (at' p0 a11.1)))) (List.set b12 (Int.toNat a11.1) u16) h (by repeat (first | exact SubF.nil | refine SubF.cons rfl ?_)) (SubM.refl _) (LentAll.refl _ _)
    · replace h := ifN hp14 h
      refine J.exit ?_
      refine J.thenX ?_
      refine J.thenX ?_
      refine J.inX ?_
      refine J.thenN ?_
      exact J.meetI (a11.2) (b12) h (by repeat (first | exact SubF.nil | refine SubF.cons rfl ?_)) (SubM.refl _) (LentAll.refl _ _)
  · clear h
    intro a5 b6 h
    unfold family_copied_k1 at h
    refine J.seq ?_
    refine J.region ?_
    refine J.quiet (Y.move rfl) rfl ?_
    refine J.quiet (Y.assign rfl) rfl ?_
    refine J.done ?_
    refine J.thenN ?_
    refine J.ret ?_
    obtain rfl := Option.some.inj h
    exact J.retG1 (u2, b6) rfl rfl (RV.tmp rfl) (SubM.refl _) LentAll.nil

end Go.Proofs.Ytemhmmcakmidkaa
end
section
set_option linter.unusedVariables false
set_option linter.unusedSimpArgs false
namespace Go.Proofs.Ytemhmmcakmidkaa
open Go.Sx
set_option linter.unusedVariables false
set_option linter.unusedSimpArgs false
def family_Identify_k1 (fuel : Nat) (p0 : List (Int) × (List (List (Int × Int)))) (p1 : List (Int)) (a8 : Bool) : Option ((List (Int) × (List (List (Int × Int)))) × Int) :=
  if a8 = true then (some (((([] : List Int), ([] : List (List (Int × Int))))), (2 : Int))) else (Option.bind (m_slices_Clone fuel p1) fun r11 => (Option.bind (m_family_copied fuel p0.2) fun r14 => (some (((r11, r14)), (0 : Int)))))
def m_family_Identify (fuel : Nat) (p0 : List (Int) × (List (List (Int × Int)))) (p1 : List (Int)) : Option ((List (Int) × (List (List (Int × Int)))) × Int) :=
  Option.bind (m_graph_Valid fuel ((p0.1, p0.2))) fun r3 => (if (!r3) = true then (some (((([] : List Int), ([] : List (List (Int × Int))))), (1 : Int))) else (if (List.length p1 : Int) ≠ (List.length p0.1 : Int) then (family_Identify_k1 fuel p0 p1 (true)) else (Option.bind (m_graph_DifferentIDs fuel p1) fun r22 => (family_Identify_k1 fuel p0 p1 ((!r22))))))

theorem body49 : HasBody Try.prog 49 := Try.call49

set_option maxHeartbeats 4000000 in
set_option maxRecDepth 20000 in
theorem t_family_Identify (fuel : Nat) {p0 : List (Int) × (List (List (Int × Int)))} {p1 : List (Int)} (v0 : Value)  (v1 : Value)  (z2 : List (Value × List (Int × Int)))  (v3 : Value) (r : (List (Int) × (List (List (Int × Int)))) × Int) (h : m_family_Identify fuel p0 p1 = some r) :
    Meets Try.prog 49 #[Value.agg #[v0, v1], v3] [Sl RI64 v0 p0.1, S2 RI64I64p v1 z2 p0.2, Sl RI64 v3 p1] (fun x : Value × Value × List Value => Value.tuple #[Value.agg #[x.1, x.2.1], Value.int .i64 (r.2)]) (fun x l => Ar EI64 x.1 r.1.1 :: Ar Enc.raw x.2.1 x.2.2 :: Rws EI64I64p x.2.2 r.1.2 :: l) (fun _ l => l) := by
  refine Meets.of (vs := [Value.agg #[v0, v1], v3]) Try.func49 rfl Try.ntmps49 rfl fun c => ?_
  unfold m_family_Identify at h
  refine J.seq ?_
  refine J.region ?_
  refine J.loud (Loud.box (cs := [v0, v1]) rfl rfl) rfl fun b1 => ?_
  refine J.loud (Loud.alloc (cs := [Value.slice none 0 0, Value.slice none 0 0]) rfl rfl) rfl fun b2 => ?_
  refine J.quiet (Y.assign rfl) rfl ?_
  refine J.done ?_
  refine J.thenN ?_
  refine J.seq ?_
  refine J.seq ?_
  refine J.region ?_
  refine J.quiet (Y.loadBAll 1 rfl rfl rfl rfl) rfl ?_
  replace h := bnd h; obtain ⟨r3, hr4, h⟩ := h
  refine J.loud (Loud.callL body64 (t_graph_Valid fuel v0 v1 z2 r3 hr4) rfl (LentAll.cons (Lent.fact 0 rfl) (LentAll.cons (Lent.fact 1 rfl) (LentAll.nil))) (fun _ _ => rfl)) rfl fun x5 => ?_
  refine J.quiet (Y.not rfl) rfl ?_
  refine J.done ?_
  refine J.thenN ?_
  refine J.cond (by exact rfl) (fun hp6 => ?_) (fun hp6 => ?_)
  · replace h := ifP hp6 h
    refine J.seq ?_
    refine J.region ?_
    refine J.quiet (Y.bld0 (r := Value.agg #[Value.slice none 0 0, Value.slice none 0 0]) (by intro w; simp [Instr.build, Instr.fill, cells_intV, cells_boolV, cells_sliceV, cells_ptrV, cells_strV, cells_funcV, cells_agg])) rfl ?_
    refine J.storeAll 0 (vs := [Value.slice none 0 0, Value.slice none 0 0]) rfl rfl rfl rfl rfl rfl ?_
    refine J.quiet (Y.assign rfl) rfl ?_
    refine J.done ?_
    refine J.thenN ?_
    refine J.ret ?_
    refine J.thenR ?_
    refine J.stp (Stp.nilAr EI64) ?_
    refine J.stp (Stp.nilAr Enc.raw) (J.stp (Stp.rowsNil EI64I64p) ?_)
    obtain rfl := Option.some.inj h
    exact J.retG2 ((Value.slice none 0 0), (Value.slice none 0 0), ([] : List Value)) rfl rfl (RV.cell 3 rfl rfl rfl rfl) (RV.tmp rfl) (SubM.cons 2 rfl (SubM.cons 1 rfl (SubM.cons 0 rfl (SubM.nil)))) LentAll.nil
  · replace h := ifBN hp6 h
    refine J.skip ?_
    refine J.thenN ?_
    refine J.seq ?_
    refine J.seq ?_
    refine J.midI (A := Bool) (B := Unit) (fun a8 => family_Identify_k1 fuel p0 p1 a8 = some r) (fun a8 b9 => [(1, v3), (2, Value.pointer (some ⟨b1, 0, none⟩)), (4, Value.pointer (some ⟨b2, 0, none⟩)), (20, Value.bool (a8))]) (fun a8 b9 => [Blk b2 [Value.slice none 0 0, Value.slice none 0 0] 26, Blk b1 [v0, v1] 26]) (fun a8 b9 => [Sl RI64 v0 p0.1, S2 RI64I64p v1 z2 p0.2, Sl RI64 v3 p1]) ?_ ?_
    · refine J.region ?_
      refine J.quiet (Y.move rfl) rfl ?_
      refine J.quiet (Y.lenS rfl (Lent.fact 2 rfl) rfl) rfl ?_
      refine J.quiet (Y.fieldB rfl rfl rfl rfl rfl) rfl ?_
      refine J.quiet (Y.loadB 1 rfl rfl rfl rfl rfl) rfl ?_
      refine J.quiet (Y.lenS rfl (Lent.fact 0 rfl) rfl) rfl ?_
      refine J.quiet (Y.neq rfl rfl) rfl ?_
      refine J.quiet (Y.move rfl) rfl ?_
      refine J.guardD (by exact rfl) (by exact rfl) (fun hp21 => ?_) (fun hp21 => ?_)
      · replace h := ifP hp21 h
        refine J.guardN rfl rfl rfl ?_
        refine J.guardN rfl rfl rfl ?_
        refine J.guardN rfl rfl rfl ?_
        refine J.quiet (Y.pickT rfl rfl) rfl ?_
        refine J.done ?_
        refine J.thenN ?_
        exact J.meetI (true) (()) h (by repeat (first | exact SubF.nil | refine SubF.cons rfl ?_)) (SubM.refl _) (LentAll.refl _ _)
      · replace h := ifN hp21 h
        refine J.guardY rfl (Y.move rfl) rfl ?_
        replace h := bnd h; obtain ⟨r22, hr23, h⟩ := h
        refine J.loudG rfl (Loud.callL body87 (t_graph_DifferentIDs fuel v3 r22 hr23) rfl (LentAll.cons (Lent.fact 2 rfl) (LentAll.nil)) (fun _ _ => rfl)) rfl fun x24 => ?_
        refine J.guardY rfl (Y.not rfl) rfl ?_
        refine J.quiet (Y.pickF rfl rfl) rfl ?_
        refine J.done ?_
        refine J.thenN ?_
        exact J.meetI ((!r22)) (()) h (by repeat (first | exact SubF.nil | refine SubF.cons rfl ?_)) (SubM.refl _) (LentAll.refl _ _)
    · clear h
      intro a8 b9 h
      unfold family_Identify_k1 at h
      refine J.cond (by exact rfl) (fun hp10 => ?_) (fun hp10 => ?_)
      · replace h := ifP hp10 h
        refine J.seq ?_
        refine J.region ?_
        refine J.quiet (Y.bld0 (r := Value.agg #[Value.slice none 0 0, Value.slice none 0 0]) (by intro w; simp [Instr.build, Instr.fill, cells_intV, cells_boolV, cells_sliceV, cells_ptrV, cells_strV, cells_funcV, cells_agg])) rfl ?_
        refine J.storeAll 0 (vs := [Value.slice none 0 0, Value.slice none 0 0]) rfl rfl rfl rfl rfl rfl ?_
        refine J.quiet (Y.assign rfl) rfl ?_
        refine J.done ?_
        refine J.thenN ?_
        refine J.ret ?_
        refine J.thenR ?_
        refine J.stp (Stp.nilAr EI64) ?_
        refine J.stp (Stp.nilAr Enc.raw) (J.stp (Stp.rowsNil EI64I64p) ?_)
        obtain rfl := Option.some.inj h
        exact J.retG2 ((Value.slice none 0 0), (Value.slice none 0 0), ([] : List Value)) rfl rfl (RV.cell 3 rfl rfl rfl rfl) (RV.tmp rfl) (SubM.cons 2 rfl (SubM.cons 1 rfl (SubM.cons 0 rfl (SubM.nil)))) LentAll.nil
      · replace h := ifBN hp10 h
        refine J.skip ?_
        refine J.thenN ?_
        refine J.seq ?_
        refine JR.start [0, 1, 0, 4, 15, 31, 63, 127] 4 mixedOrders (by decide +kernel) ?_
        refine JR.open (by exact rfl) ?_
        refine JR.qt rfl (SubM.nil) (SubL.nil) (Y.move rfl) HistOk.z ?_
        replace h := bnd h; obtain ⟨r11, hr12, h⟩ := h
        refine JR.loud rfl rfl rfl (Loud.callL body88 (t_slices_Clone fuel v3 r11 hr12) rfl (LentAll.cons (Lent.fact 2 rfl) (LentAll.nil)) (fun _ _ => rfl)) rfl (fun x13 => (BsOk.b rfl BsOk.z)) fun x13 => ?_
        refine JR.qt rfl (SubM.nil) (SubL.nil) (Y.fieldB rfl rfl rfl rfl rfl) (HistOk.h (SubM.nil) (SubL.nil) HistOk.z) ?_
        refine JR.qt rfl (SubM.cons 2 rfl (SubM.nil)) (SubL.nil) (Y.loadB 0 rfl rfl rfl rfl rfl) (HistOk.h (SubM.cons 1 rfl (SubM.nil)) (SubL.nil) HistOk.z) ?_
        refine JR.tailD 4 rfl rfl ?_
        replace h := bnd h; obtain ⟨r14, hr15, h⟩ := h
        refine J.loud (Loud.callL body89 (t_family_copied fuel v1 z2 r14 hr15) rfl (LentAll.cons (Lent.fact 1 rfl) (LentAll.nil)) (fun _ _ => rfl)) rfl fun x16 => ?_
        refine J.know (Know.one ((Lent.ar (Lent.res 2 rfl) FI64))) fun ho17 => ?_
        refine J.know (Know.one (Lent.sl (Lent.rows (i := 0) (j := 1) rfl rfl FI64I64p))) fun ho18 => ?_
        refine J.quiet (Y.bld2 (r := Value.agg #[x13, x16.1]) rfl rfl (by intro w; simp [Instr.build, Instr.fill, cells_intV, cells_boolV, cells_sliceV, cells_ptrV, cells_strV, cells_funcV, cells_agg, one_cells ho17, one_cells ho18])) rfl ?_
        refine J.know (Know.one ((Lent.ar (Lent.res 2 rfl) FI64))) fun ho19 => ?_
        refine J.know (Know.one (Lent.sl (Lent.rows (i := 0) (j := 1) rfl rfl FI64I64p))) fun ho20 => ?_
        refine J.storeAll 3 (vs := [x13, x16.1]) rfl rfl (all1 ho19 (all1 ho20 rfl)) rfl rfl rfl ?_
        refine J.quiet (Y.assign rfl) rfl ?_
        refine J.done ?_
        refine J.thenN ?_
        refine J.ret ?_
        obtain rfl := Option.some.inj h
        exact J.retG2 (x13, x16.1, x16.2) rfl rfl (RV.cell 3 rfl rfl rfl rfl) (RV.tmp rfl) (SubM.cons 2 rfl (SubM.cons 0 rfl (SubM.cons 0 rfl (SubM.nil)))) LentAll.nil

end Go.Proofs.Ytemhmmcakmidkaa
end
section
set_option linter.unusedVariables false
set_option linter.unusedSimpArgs false
namespace Go.Proofs.Ytemhmmcakmidkaa
open Go.Sx
set_option linter.unusedVariables false
set_option linter.unusedSimpArgs false
def ref03_Copy_k1 (p0 : List (Int) × (List (List (Int × Int)))) (a11 : (List (List (Int × Int)))) : Option ((List (Int) × (List (List (Int × Int))))) :=
  some (((([] : List Int) ++ p0.1), a11))
def ref03_Copy_s1 (p0 : List (Int) × (List (List (Int × Int)))) (a20 : Int × (List (List (Int × Int)))) (ag19 : (Int × (List (List (Int × Int)))) → Option ((List (Int) × (List (List (Int × Int)))))) : Option ((List (Int) × (List (List (Int × Int))))) :=
  if a20.1 < (List.length p0.2 : Int) then (ck (0 ≤ a20.1 ∧ a20.1 < (List.length p0.2 : Int)) (ck ((List.length ([] : List (Int × Int)) : Int) + (List.length (at' p0.2 a20.1) : Int) ≤ 1099511627) (ck ((List.length a20.2 : Int) + (List.length ([ (([] : List (Int × Int)) ++ (at' p0.2 a20.1))]) : Int) ≤ 1099511627) (ag19 ((wI .i64 (a20.1 + (1 : Int))), (a20.2 ++ ([ (([] : List (Int × Int)) ++ (at' p0.2 a20.1))]))))))) else (ref03_Copy_k1 p0 (a20.2))
def m_ref03_Copy (fuel : Nat) (p0 : List (Int) × (List (List (Int × Int)))) : Option ((List (Int) × (List (List (Int × Int))))) :=
  ck ((List.length ([] : List Int) : Int) + (List.length p0.1 : Int) ≤ 1099511627) (iter (ref03_Copy_s1 p0) fuel ((0 : Int), ([] : List (List (Int × Int)))))

theorem body90 : HasBody Try.prog 90 := Try.call90

set_option maxHeartbeats 4000000 in
set_option maxRecDepth 20000 in
theorem t_ref03_Copy (fuel : Nat) {p0 : List (Int) × (List (List (Int × Int)))} (v0 : Value)  (v1 : Value)  (z2 : List (Value × List (Int × Int))) (r : (List (Int) × (List (List (Int × Int))))) (h : m_ref03_Copy fuel p0 = some r) :
    Meets Try.prog 90 #[Value.agg #[v0, v1]] [Sl RI64 v0 p0.1, S2 RI64I64p v1 z2 p0.2] (fun x : Value × Value × List Value => Value.agg #[x.1, x.2.1]) (fun x l => Ar EI64 x.1 r.1 :: Ar Enc.raw x.2.1 x.2.2 :: Rws EI64I64p x.2.2 r.2 :: l) (fun _ l => l) := by
  refine Meets.of (vs := [Value.agg #[v0, v1]]) Try.func90 rfl Try.ntmps90 rfl fun c => ?_
  unfold m_ref03_Copy at h
  refine J.seq ?_
  refine J.region ?_
  refine J.loud (Loud.box (cs := [v0, v1]) rfl rfl) rfl fun b1 => ?_
  refine J.loud (Loud.alloc (cs := [Value.slice none 0 0, Value.slice none 0 0]) rfl rfl) rfl fun b2 => ?_
  refine J.done ?_
  refine J.thenN ?_
  refine J.seq ?_
  refine J.region ?_
  refine J.quiet (Y.fieldB rfl rfl rfl rfl rfl) rfl ?_
  refine J.quiet (Y.loadB 1 rfl rfl rfl rfl rfl) rfl ?_
  refine J.stp (Stp.nilAr EI64) ?_
  replace h := ck_some h; obtain ⟨hc4, h⟩ := h
  refine J.loud (Loud.appendL 0 FI64 rfl rfl rfl (Lent.fact 0 rfl) rfl rfl rfl rfl hc4 rfl) rfl fun u3 => ?_
  refine J.know (Know.one ((Lent.ar (Lent.res 0 rfl) FI64))) fun ho5 => ?_
  refine J.quiet (Y.bld1 (r := Value.agg #[u3, Value.slice none 0 0]) rfl (by intro w; simp [Instr.build, Instr.fill, cells_intV, cells_boolV, cells_sliceV, cells_ptrV, cells_strV, cells_funcV, cells_agg, one_cells ho5])) rfl ?_
  refine J.loud (Loud.alloc (cs := [Value.slice none 0 0, Value.slice none 0 0]) rfl rfl) rfl fun b6 => ?_
  refine J.know (Know.one ((Lent.ar (Lent.res 1 rfl) FI64))) fun ho7 => ?_
  refine J.storeAll 0 (vs := [u3, Value.slice none 0 0]) rfl rfl (all1 ho7 (all1 rfl rfl)) rfl rfl rfl ?_
  refine J.done ?_
  refine J.thenN ?_
  refine J.seq ?_
  refine J.midI (A := (List (List (Int × Int)))) (B := Value × List Value) (fun a11 => ref03_Copy_k1 p0 a11 = some r) (fun a11 b12 => [(2, Value.pointer (some ⟨b2, 0, none⟩)), (3, Value.pointer (some ⟨b6, 0, none⟩))]) (fun a11 b12 => [Blk b6 [u3, b12.1] 26, Ar EI64 u3 (([] : List Int) ++ p0.1), Blk b2 [Value.slice none 0 0, Value.slice none 0 0] 26, Ar Enc.raw b12.1 b12.2, Rws EI64I64p b12.2 a11]) (fun a11 b12 => [Sl RI64 v0 p0.1, S2 RI64I64p v1 z2 p0.2]) ?_ ?_
  · refine J.seq ?_
    refine J.region ?_
    refine J.quiet (Y.assign rfl) rfl ?_
    refine J.done ?_
    refine J.thenN ?_
    refine J.block ?_
    refine J.stp (Stp.nilAr Enc.raw) (J.stp (Stp.rowsNil EI64I64p) ?_)
    refine J.loopI (A := Int × (List (List (Int × Int)))) (B := Value × List Value) (ref03_Copy_s1 p0) (fun a20 b21 => [(1, Value.pointer (some ⟨b1, 0, none⟩)), (2, Value.pointer (some ⟨b2, 0, none⟩)), (3, Value.pointer (some ⟨b6, 0, none⟩)), (4, Value.int .i64 (a20.1))]) (fun a20 b21 => [Blk b6 [u3, b21.1] 26, Ar EI64 u3 (([] : List Int) ++ p0.1), Blk b2 [Value.slice none 0 0, Value.slice none 0 0] 26, Blk b1 [v0, v1] 26, Ar Enc.raw b21.1 b21.2, Rws EI64I64p b21.2 a20.2]) (fun a20 b21 => [Sl RI64 v0 p0.1, S2 RI64I64p v1 z2 p0.2]) ((0 : Int), ([] : List (List (Int × Int)))) ((Value.slice none 0 0), ([] : List Value)) h (by repeat (first | exact SubF.nil | refine SubF.cons rfl ?_)) (SubM.cons 2 rfl (SubM.cons 2 rfl (SubM.cons 2 rfl (SubM.cons 2 rfl (SubM.cons 1 rfl (SubM.cons 0 rfl (SubM.nil))))))) (LentAll.refl _ _) ?_
    clear h
    intro k22 a20 b21 h
    unfold ref03_Copy_s1 at h
    refine J.seq ?_
    refine J.seq ?_
    refine J.region ?_
    refine J.quiet (Y.move rfl) rfl ?_
    refine J.quiet (Y.fieldB rfl rfl rfl rfl rfl) rfl ?_
    refine J.quiet (Y.loadB 3 rfl rfl rfl rfl rfl) rfl ?_
    refine J.quiet (Y.lenN rfl (Lent.fact 1 rfl) rfl) rfl ?_
    refine J.quiet (Y.lss rfl rfl) rfl ?_
    refine J.done ?_
    refine J.thenN ?_
    refine J.condD (by exact rfl) (fun hp23 => ?_) (fun hp23 => ?_)
    · replace h := ifP hp23 h
      refine J.skip ?_
      refine J.thenN ?_
      refine J.seq ?_
      refine J.block ?_
      refine JR.start [0, 1, 0, 4, 0, 28, 60, 124, 252, 511, 1023, 2047] 9 mixedOrders (by decide +kernel) ?_
      refine JR.open (by exact rfl) ?_
      refine JR.qt rfl (SubM.nil) (SubL.nil) (Y.fieldB rfl rfl rfl rfl rfl) HistOk.z ?_
      refine JR.qt rfl (SubM.cons 0 rfl (SubM.nil)) (SubL.nil) (Y.loadB 0 rfl rfl rfl rfl rfl) HistOk.z ?_
      refine JR.qt rfl (SubM.nil) (SubL.nil) (Y.fieldB rfl rfl rfl rfl rfl) HistOk.z ?_
      refine JR.qt rfl (SubM.cons 3 rfl (SubM.nil)) (SubL.nil) (Y.loadB 0 rfl rfl rfl rfl rfl) HistOk.z ?_
      refine JR.qt rfl (SubM.nil) (SubL.nil) (Y.move rfl) HistOk.z ?_
      replace h := ck_some h; obtain ⟨hc24, h⟩ := h
      refine JR.qt rfl (SubM.nil) (SubL.cons (List.mem_of_getElem? (i := 1) rfl) (SubL.nil)) (Y.indexN rfl rfl (Lent.fact 0 rfl) rfl rfl hc24) HistOk.z ?_
      refine JR.qt rfl (SubM.nil) (SubL.cons (List.mem_of_getElem? (i := 1) rfl) (SubL.nil)) (Y.loadRow rfl (Lent.fact 0 rfl) rfl rfl hc24) HistOk.z ?_
      refine JR.stp (Stp.nilAr EI64I64p) ?_
      replace h := ck_some h; obtain ⟨hc26, h⟩ := h
      refine JR.loud rfl rfl rfl (Loud.appendL 0 FI64I64p rfl rfl rfl (Lent.el (Lent.fact 1 rfl) hc24.1 hc24.2) rfl rfl rfl rfl hc26 rfl) rfl (fun u25 => (BsOk.b rfl (BsOk.b rfl (BsOk.b rfl (BsOk.b rfl (BsOk.b rfl (BsOk.h (SubM.cons 1 rfl (SubM.nil)) (SubL.nil) (BsOk.h (SubM.nil) (SubL.nil) BsOk.z)))))))) fun u25 => ?_
      refine JR.stp (Stp.rowsNil EI64I64p) ?_
      refine JR.know (Know.one ((Lent.ar (Lent.res 1 rfl) FI64I64p))) fun ho27 => ?_
      refine JR.stp (Stp.addRow 0 1 rfl rfl rfl) ?_
      refine JR.loud rfl rfl rfl (Loud.buildS (e := Enc.raw) [u25] [(0, u25)] rfl rfl rfl rfl (fill_1_1 (u25) ho27) rfl rfl (by simp [cellsOf, Enc.raw, ho27])) rfl (fun u28 => (BsOk.b rfl (BsOk.b rfl (BsOk.b rfl (BsOk.b rfl (BsOk.b rfl (BsOk.h (SubM.cons 2 rfl (SubM.nil)) (SubL.nil) (BsOk.h (SubM.nil) (SubL.nil) BsOk.z)))))))) fun u28 => ?_
      refine JR.tailD 9 rfl rfl ?_
      refine J.know (Know.rws 7 rfl) fun hl29 => J.know (Know.rws 1 rfl) fun hl30 => ?_
      replace h := ck_some h; obtain ⟨hc31, h⟩ := h
      refine J.stp (Stp.catRows 7 1 rfl rfl rfl) ?_
      refine J.loud (Loud.append 5 0 rfl rfl rfl rfl rfl rfl rfl (by have q := hc31; have q1 := hl29; have q2 := hl30; (try simp only [List.length_cons, List.length_nil] at q q1 q2 ⊢); omega) (by have q := hc31; have q1 := hl29; have q2 := hl30; (try simp only [List.length_cons, List.length_nil] at q q1 q2 ⊢); omega) rfl) rfl fun u32 => ?_
      refine J.quiet (Y.fieldB rfl rfl rfl rfl rfl) rfl ?_
      refine J.know (Know.one (Lent.sl (Lent.rows (i := 5) (j := 6) rfl rfl FI64I64p))) fun ho33 => ?_
      refine J.store1 1 rfl rfl ho33 rfl rfl rfl ?_
      refine J.done ?_
      refine J.inN ?_
      refine J.thenN ?_
      refine J.region ?_
      refine J.quiet (Y.move rfl) rfl ?_
      refine J.quiet (Y.addW rfl rfl) rfl ?_
      refine J.quiet (Y.assign rfl) rfl ?_
      refine J.done ?_
      refine J.thenN ?_
      exact J.againI ((wI .i64 (a20.1 + (1 : Int))), (a20.2 ++ ([ (([] : List (Int × Int)) ++ (at' p0.2 a20.1))]))) (u32, (b21.2 ++ [u25])) h (by repeat (first | exact SubF.nil | refine SubF.cons rfl ?_)) (SubM.cons 1 rfl (SubM.cons 1 rfl (SubM.cons 1 rfl (SubM.cons 1 rfl (SubM.cons 1 rfl (SubM.cons 1 rfl (SubM.nil))))))) (LentAll.refl _ _)
    · replace h := ifN hp23 h
      refine J.exit ?_
      refine J.thenX ?_
      refine J.thenX ?_
      refine J.inX ?_
      refine J.thenN ?_
      exact J.meetI (a20.2) (b21.1, b21.2) h (by repeat (first | exact SubF.nil | refine SubF.cons rfl ?_)) (SubM.cons 0 rfl (SubM.cons 0 rfl (SubM.cons 0 rfl (SubM.cons 1 rfl (SubM.cons 1 rfl (SubM.nil)))))) (LentAll.refl _ _)
  · clear h
    intro a11 b12 h
    unfold ref03_Copy_k1 at h
    refine J.seq ?_
    refine J.region ?_
    refine J.quiet (Y.loadBAll 0 rfl rfl rfl rfl) rfl ?_
    refine J.know (Know.one ((Lent.ar (Lent.res 1 rfl) FI64))) fun ho13 => ?_
    refine J.know (Know.one (Lent.sl (Lent.rows (i := 3) (j := 4) rfl rfl FI64I64p))) fun ho14 => ?_
    refine J.storeAll 2 (vs := [u3, b12.1]) rfl rfl (all1 ho13 (all1 ho14 rfl)) rfl rfl rfl ?_
    refine J.done ?_
    refine J.thenN ?_
    refine J.ret ?_
    obtain rfl := Option.some.inj h
    exact J.retG1 (u3, b12.1, b12.2) rfl rfl (RV.cell 2 rfl rfl rfl rfl) (SubM.cons 1 rfl (SubM.cons 2 rfl (SubM.cons 2 rfl (SubM.nil)))) LentAll.nil

end Go.Proofs.Ytemhmmcakmidkaa
end
section
set_option linter.unusedVariables false
set_option linter.unusedSimpArgs false
namespace Go.Proofs.Ytemhmmcakmidkaa
open Go.Sx
set_option linter.unusedVariables false
set_option linter.unusedSimpArgs false
def m_ref03_Identify (fuel : Nat) (p0 : List (Int) × (List (List (Int × Int)))) (p1 : List (Int)) : Option ((List (Int) × (List (List (Int × Int)))) × Int) :=
  Option.bind (m_ref01_Valid fuel ((p0.1, p0.2))) fun r3 => (if (!r3) = true then (some (((([] : List Int), ([] : List (List (Int × Int))))), (1 : Int))) else (Option.bind (m_ref03_Copy fuel ((p0.1, p0.2))) fun r7 => (ck ((List.length ([] : List Int) : Int) + (List.length p1 : Int) ≤ 1099511627) (Option.bind (m_ref01_Valid fuel (((([] : List Int) ++ p1), r7.2))) fun r16 => (if (!r16) = true then (some (((([] : List Int), ([] : List (List (Int × Int))))), (2 : Int))) else (some ((((([] : List Int) ++ p1), r7.2)), (0 : Int))))))))

theorem body50 : HasBody Try.prog 50 := Try.call50

set_option maxHeartbeats 4000000 in
set_option maxRecDepth 20000 in
theorem t_ref03_Identify (fuel : Nat) {p0 : List (Int) × (List (List (Int × Int)))} {p1 : List (Int)} (v0 : Value)  (v1 : Value)  (z2 : List (Value × List (Int × Int)))  (v3 : Value) (r : (List (Int) × (List (List (Int × Int)))) × Int) (h : m_ref03_Identify fuel p0 p1 = some r) :
    Meets Try.prog 50 #[Value.agg #[v0, v1], v3] [Sl RI64 v0 p0.1, S2 RI64I64p v1 z2 p0.2, Sl RI64 v3 p1] (fun x : Value × Value × List Value => Value.tuple #[Value.agg #[x.1, x.2.1], Value.int .i64 (r.2)]) (fun x l => Ar EI64 x.1 r.1.1 :: Ar Enc.raw x.2.1 x.2.2 :: Rws EI64I64p x.2.2 r.1.2 :: l) (fun _ l => l) := by
  refine Meets.of (vs := [Value.agg #[v0, v1], v3]) Try.func50 rfl Try.ntmps50 rfl fun c => ?_
  unfold m_ref03_Identify at h
  refine J.seq ?_
  refine J.region ?_
  refine J.loud (Loud.box (cs := [v0, v1]) rfl rfl) rfl fun b1 => ?_
  refine J.loud (Loud.alloc (cs := [Value.slice none 0 0, Value.slice none 0 0]) rfl rfl) rfl fun b2 => ?_
  refine J.quiet (Y.assign rfl) rfl ?_
  refine J.done ?_
  refine J.thenN ?_
  refine J.seq ?_
  refine J.seq ?_
  refine J.region ?_
  refine J.quiet (Y.loadBAll 1 rfl rfl rfl rfl) rfl ?_
  replace h := bnd h; obtain ⟨r3, hr4, h⟩ := h
  refine J.loud (Loud.callL body51 (t_ref01_Valid fuel v0 v1 z2 r3 hr4) rfl (LentAll.cons (Lent.fact 0 rfl) (LentAll.cons (Lent.fact 1 rfl) (LentAll.nil))) (fun _ _ => rfl)) rfl fun x5 => ?_
  refine J.quiet (Y.not rfl) rfl ?_
  refine J.done ?_
  refine J.thenN ?_
  refine J.cond (by exact rfl) (fun hp6 => ?_) (fun hp6 => ?_)
  · replace h := ifP hp6 h
    refine J.seq ?_
    refine J.region ?_
    refine J.quiet (Y.bld0 (r := Value.agg #[Value.slice none 0 0, Value.slice none 0 0]) (by intro w; simp [Instr.build, Instr.fill, cells_intV, cells_boolV, cells_sliceV, cells_ptrV, cells_strV, cells_funcV, cells_agg])) rfl ?_
    refine J.storeAll 0 (vs := [Value.slice none 0 0, Value.slice none 0 0]) rfl rfl rfl rfl rfl rfl ?_
    refine J.quiet (Y.assign rfl) rfl ?_
    refine J.done ?_
    refine J.thenN ?_
    refine J.ret ?_
    refine J.thenR ?_
    refine J.stp (Stp.nilAr EI64) ?_
    refine J.stp (Stp.nilAr Enc.raw) (J.stp (Stp.rowsNil EI64I64p) ?_)
    obtain rfl := Option.some.inj h
    exact J.retG2 ((Value.slice none 0 0), (Value.slice none 0 0), ([] : List Value)) rfl rfl (RV.cell 3 rfl rfl rfl rfl) (RV.tmp rfl) (SubM.cons 2 rfl (SubM.cons 1 rfl (SubM.cons 0 rfl (SubM.nil)))) LentAll.nil
  · replace h := ifBN hp6 h
    refine J.skip ?_
    refine J.thenN ?_
    refine J.seq ?_
    refine J.region ?_
    refine J.quiet (Y.loadBAll 1 rfl rfl rfl rfl) rfl ?_
    replace h := bnd h; obtain ⟨r7, hr8, h⟩ := h
    refine J.loud (Loud.callL body90 (t_ref03_Copy fuel v0 v1 z2 r7 hr8) rfl (LentAll.cons (Lent.fact 0 rfl) (LentAll.cons (Lent.fact 1 rfl) (LentAll.nil))) (fun _ _ => rfl)) rfl fun x9 => ?_
    refine J.loud (Loud.alloc (cs := [Value.slice none 0 0, Value.slice none 0 0]) rfl rfl) rfl fun b10 => ?_
    refine J.know (Know.one ((Lent.ar (Lent.res 1 rfl) FI64))) fun ho11 => ?_
    refine J.know (Know.one (Lent.sl (Lent.rows (i := 2) (j := 3) rfl rfl FI64I64p))) fun ho12 => ?_
    refine J.storeAll 0 (vs := [x9.1, x9.2.1]) rfl rfl (all1 ho11 (all1 ho12 rfl)) rfl rfl rfl ?_
    refine J.done ?_
    refine J.thenN ?_
    refine J.seq ?_
    refine J.region ?_
    refine J.quiet (Y.move rfl) rfl ?_
    refine J.stp (Stp.nilAr EI64) ?_
    replace h := ck_some h; obtain ⟨hc14, h⟩ := h
    refine J.loud (Loud.appendL 0 FI64 rfl rfl rfl (Lent.fact 2 rfl) rfl rfl rfl rfl hc14 rfl) rfl fun u13 => ?_
    refine J.quiet (Y.fieldB rfl rfl rfl rfl rfl) rfl ?_
    refine J.know (Know.one ((Lent.ar (Lent.res 0 rfl) FI64))) fun ho15 => ?_
    refine J.store1 1 rfl rfl ho15 rfl rfl rfl ?_
    refine J.done ?_
    refine J.thenN ?_
    refine J.seq ?_
    refine J.seq ?_
    refine J.region ?_
    refine J.quiet (Y.loadBAll 1 rfl rfl rfl rfl) rfl ?_
    replace h := bnd h; obtain ⟨r16, hr17, h⟩ := h
    refine J.loud (Loud.callL body51 (t_ref01_Valid fuel u13 x9.2.1 (List.zip x9.2.2 r7.2) r16 hr17) rfl (LentAll.cons (Lent.ar (Lent.res 0 rfl) FI64) (LentAll.cons (Lent.rows (i := 3) (j := 4) rfl rfl FI64I64p) (LentAll.nil))) (fun _ _ => rfl)) rfl fun x18 => ?_
    refine J.quiet (Y.not rfl) rfl ?_
    refine J.done ?_
    refine J.thenN ?_
    refine J.cond (by exact rfl) (fun hp19 => ?_) (fun hp19 => ?_)
    · replace h := ifP hp19 h
      refine J.seq ?_
      refine J.region ?_
      refine J.quiet (Y.bld0 (r := Value.agg #[Value.slice none 0 0, Value.slice none 0 0]) (by intro w; simp [Instr.build, Instr.fill, cells_intV, cells_boolV, cells_sliceV, cells_ptrV, cells_strV, cells_funcV, cells_agg])) rfl ?_
      refine J.storeAll 5 (vs := [Value.slice none 0 0, Value.slice none 0 0]) rfl rfl rfl rfl rfl rfl ?_
      refine J.quiet (Y.assign rfl) rfl ?_
      refine J.done ?_
      refine J.thenN ?_
      refine J.ret ?_
      refine J.thenR ?_
      refine J.stp (Stp.nilAr EI64) ?_
      refine J.stp (Stp.nilAr Enc.raw) (J.stp (Stp.rowsNil EI64I64p) ?_)
      obtain rfl := Option.some.inj h
      exact J.retG2 ((Value.slice none 0 0), (Value.slice none 0 0), ([] : List Value)) rfl rfl (RV.cell 8 rfl rfl rfl rfl) (RV.tmp rfl) (SubM.cons 2 rfl (SubM.cons 1 rfl (SubM.cons 0 rfl (SubM.nil)))) LentAll.nil
    · replace h := ifBN hp19 h
      refine J.skip ?_
      refine J.thenN ?_
      refine J.seq ?_
      refine J.region ?_
      refine J.quiet (Y.loadBAll 1 rfl rfl rfl rfl) rfl ?_
      refine J.know (Know.one ((Lent.ar (Lent.res 0 rfl) FI64))) fun ho20 => ?_
      refine J.know (Know.one (Lent.sl (Lent.rows (i := 3) (j := 4) rfl rfl FI64I64p))) fun ho21 => ?_
      refine J.storeAll 5 (vs := [u13, x9.2.1]) rfl rfl (all1 ho20 (all1 ho21 rfl)) rfl rfl rfl ?_
      refine J.quiet (Y.assign rfl) rfl ?_
      refine J.done ?_
      refine J.thenN ?_
      refine J.ret ?_
      obtain rfl := Option.some.inj h
      exact J.retG2 (u13, x9.2.1, x9.2.2) rfl rfl (RV.cell 5 rfl rfl rfl rfl) (RV.tmp rfl) (SubM.cons 0 rfl (SubM.cons 2 rfl (SubM.cons 2 rfl (SubM.nil)))) LentAll.nil

end Go.Proofs.Ytemhmmcakmidkaa
end
section
set_option linter.unusedVariables false
set_option linter.unusedSimpArgs false
namespace Go.Proofs.Ytemhmmcakmidkaa
open Go.Sx
set_option linter.unusedVariables false
set_option linter.unusedSimpArgs false
def law03_FamilyRenames_k2  (a34 : Bool) : Option (Bool) :=
  some (a34)
def law03_FamilyRenames_k1 (fuel : Nat) (p0 : List (Int) × (List (List (Int × Int)))) (p1 : List (Int)) (p2 : List (Int)) (a3 : Bool) : Option (Bool) :=
  if a3 = true then (Option.bind (m_law03_awake fuel ) fun r6 => (some (r6))) else (Option.bind (m_family_Relabel fuel ((p0.1, p0.2)) p1) fun r9 => (Option.bind (m_ref03_Relabel fuel ((p0.1, p0.2)) p1) fun r15 => (Option.bind (m_family_Identify fuel ((p0.1, p0.2)) p2) fun r21 => (Option.bind (m_ref03_Identify fuel ((p0.1, p0.2)) p2) fun r27 => (Option.bind (m_law03_awake fuel ) fun r36 => (if r36 = true then (Option.bind (m_ref01_Same fuel ((r9.1.1, r9.1.2)) ((r15.1.1, r15.1.2))) fun r40 => (if r40 = true then (if r9.2 = r15.2 then (Option.bind (m_ref01_Same fuel ((r21.1.1, r21.1.2)) ((r27.1.1, r27.1.2))) fun r45 => (if r45 = true then (law03_FamilyRenames_k2  (decide (r21.2 = r27.2))) else (law03_FamilyRenames_k2  (false)))) else (law03_FamilyRenames_k2  (false))) else (law03_FamilyRenames_k2  (false)))) else (law03_FamilyRenames_k2  (false))))))))
def m_law03_FamilyRenames (fuel : Nat) (p0 : List (Int) × (List (List (Int × Int)))) (p1 : List (Int)) (p2 : List (Int)) : Option (Bool) :=
  Option.bind (m_made_LightGraph fuel ((p0.1, p0.2))) fun r49 => (if (!r49) = true then (law03_FamilyRenames_k1 fuel p0 p1 p2 (true)) else (if (40 : Int) < (List.length p1 : Int) then (law03_FamilyRenames_k1 fuel p0 p1 p2 (true)) else (law03_FamilyRenames_k1 fuel p0 p1 p2 (decide ((40 : Int) < (List.length p2 : Int))))))

set_option maxHeartbeats 4000000 in
set_option maxRecDepth 20000 in
theorem t_law03_FamilyRenames (fuel : Nat) {p0 : List (Int) × (List (List (Int × Int)))} {p1 : List (Int)} {p2 : List (Int)} (v0 : Value)  (v1 : Value)  (z2 : List (Value × List (Int × Int)))  (v3 : Value)  (v4 : Value) (r : Bool) (h : m_law03_FamilyRenames fuel p0 p1 p2 = some r) :
    Meets Try.prog 10 #[Value.agg #[v0, v1], v3, v4] [Sl RI64 v0 p0.1, S2 RI64I64p v1 z2 p0.2, Sl RI64 v3 p1, Sl RI64 v4 p2] (fun x : Unit => Value.bool (r)) (fun x l => l) (fun _ l => l) := by
  refine Meets.of (vs := [Value.agg #[v0, v1], v3, v4]) Try.func10 rfl Try.ntmps10 rfl fun c => ?_
  unfold m_law03_FamilyRenames at h
  refine J.seq ?_
  refine J.region ?_
  refine J.loud (Loud.box (cs := [v0, v1]) rfl rfl) rfl fun b1 => ?_
  refine J.quiet (Y.assign rfl) rfl ?_
  refine J.done ?_
  refine J.thenN ?_
  refine J.seq ?_
  refine J.seq ?_
  refine J.midI (A := Bool) (B := Unit) (fun a3 => law03_FamilyRenames_k1 fuel p0 p1 p2 a3 = some r) (fun a3 b4 => [(1, v3), (2, v4), (3, Value.pointer (some ⟨b1, 0, none⟩)), (27, Value.bool (a3))]) (fun a3 b4 => [Blk b1 [v0, v1] 26]) (fun a3 b4 => [Sl RI64 v0 p0.1, S2 RI64I64p v1 z2 p0.2, Sl RI64 v3 p1, Sl RI64 v4 p2]) ?_ ?_
  · refine J.region ?_
    refine J.quiet (Y.loadBAll 0 rfl rfl rfl rfl) rfl ?_
    replace h := bnd h; obtain ⟨r49, hr50, h⟩ := h
    refine J.loud (Loud.callL body46 (t_made_LightGraph fuel v0 v1 z2 r49 hr50) rfl (LentAll.cons (Lent.fact 0 rfl) (LentAll.cons (Lent.fact 1 rfl) (LentAll.nil))) (fun _ _ => rfl)) rfl fun x51 => ?_
    refine J.quiet (Y.not rfl) rfl ?_
    refine J.quiet (Y.move rfl) rfl ?_
    refine J.guard (by exact rfl) (by exact rfl) (fun hp52 => ?_) (fun hp52 => ?_)
    · replace h := ifP hp52 h
      refine J.guardN rfl rfl rfl ?_
      refine J.guardN rfl rfl rfl ?_
      refine J.guardN rfl rfl rfl ?_
      refine J.quiet (Y.pickT rfl rfl) rfl ?_
      refine J.quiet (Y.move rfl) rfl ?_
      refine J.guardN rfl rfl rfl ?_
      refine J.guardN rfl rfl rfl ?_
      refine J.guardN rfl rfl rfl ?_
      refine J.quiet (Y.pickT rfl rfl) rfl ?_
      refine J.done ?_
      refine J.thenN ?_
      exact J.meetI (true) (()) h (by repeat (first | exact SubF.nil | refine SubF.cons rfl ?_)) (SubM.refl _) (LentAll.refl _ _)
    · replace h := ifBN hp52 h
      refine J.guardY rfl (Y.move rfl) rfl ?_
      refine J.guardY rfl (Y.lenS rfl (Lent.fact 2 rfl) rfl) rfl ?_
      refine J.guardY rfl (Y.gtr rfl rfl) rfl ?_
      refine J.quiet (Y.pickF rfl rfl) rfl ?_
      refine J.quiet (Y.move rfl) rfl ?_
      refine J.guardD (by exact rfl) (by exact rfl) (fun hp53 => ?_) (fun hp53 => ?_)
      · replace h := ifP hp53 h
        refine J.guardN rfl rfl rfl ?_
        refine J.guardN rfl rfl rfl ?_
        refine J.guardN rfl rfl rfl ?_
        refine J.quiet (Y.pickT rfl rfl) rfl ?_
        refine J.done ?_
        refine J.thenN ?_
        exact J.meetI (true) (()) h (by repeat (first | exact SubF.nil | refine SubF.cons rfl ?_)) (SubM.refl _) (LentAll.refl _ _)
      · replace h := ifN hp53 h
        refine J.guardY rfl (Y.move rfl) rfl ?_
        refine J.guardY rfl (Y.lenS rfl (Lent.fact 3 rfl) rfl) rfl ?_
        refine J.guardY rfl (Y.gtr rfl rfl) rfl ?_
        refine J.quiet (Y.pickF rfl rfl) rfl ?_
        refine J.done ?_
        refine J.thenN ?_
        exact J.meetI (decide ((40 : Int) < (List.length p2 : Int))) (()) h (by repeat (first | exact SubF.nil | refine SubF.cons rfl ?_)) (SubM.refl _) (LentAll.refl _ _)
  · clear h
    intro a3 b4 h
    unfold law03_FamilyRenames_k1 at h
    refine J.cond (by exact rfl) (fun hp5 => ?_) (fun hp5 => ?_)
    · replace h := ifP hp5 h
      refine J.seq ?_
      refine J.region ?_
      replace h := bnd h; obtain ⟨r6, hr7, h⟩ := h
      refine J.loud (Loud.callL body18 (t_law03_awake fuel  r6 hr7) rfl (LentAll.nil) (fun _ _ => rfl)) rfl fun x8 => ?_
      refine J.quiet (Y.assign rfl) rfl ?_
      refine J.done ?_
      refine J.thenN ?_
      refine J.ret ?_
      refine J.thenR ?_
      obtain rfl := Option.some.inj h
      exact J.retG1 (()) rfl rfl (RV.tmp rfl) (SubM.nil) LentAll.nil
    · replace h := ifBN hp5 h
      refine J.skip ?_
      refine J.thenN ?_
      refine J.seq ?_
      refine J.region ?_
      refine J.quiet (Y.loadBAll 0 rfl rfl rfl rfl) rfl ?_
      refine J.quiet (Y.move rfl) rfl ?_
      replace h := bnd h; obtain ⟨r9, hr10, h⟩ := h
      refine J.loud (Loud.callL body47 (t_family_Relabel fuel v0 v1 z2 v3 r9 hr10) rfl (LentAll.cons (Lent.fact 0 rfl) (LentAll.cons (Lent.fact 1 rfl) (LentAll.cons (Lent.fact 2 rfl) (LentAll.nil)))) (fun _ _ => rfl)) rfl fun x11 => ?_
      refine J.quiet (Y.move rfl) rfl ?_
      refine J.quiet (Y.extract rfl rfl) rfl ?_
      refine J.quiet (Y.extract rfl rfl) rfl ?_
      refine J.loud (Loud.alloc (cs := [Value.slice none 0 0, Value.slice none 0 0]) rfl rfl) rfl fun b12 => ?_
      refine J.know (Know.one ((Lent.ar (Lent.res 1 rfl) FI64))) fun ho13 => ?_
      refine J.know (Know.one (Lent.sl (Lent.rows (i := 2) (j := 3) rfl rfl FI64I64p))) fun ho14 => ?_
      refine J.storeAll 0 (vs := [x11.1, x11.2.1]) rfl rfl (all1 ho13 (all1 ho14 rfl)) rfl rfl rfl ?_
      refine J.quiet (Y.assign rfl) rfl ?_
      refine J.done ?_
      refine J.thenN ?_
      refine J.seq ?_
      refine J.region ?_
      refine J.quiet (Y.loadBAll 4 rfl rfl rfl rfl) rfl ?_
      refine J.quiet (Y.move rfl) rfl ?_
      replace h := bnd h; obtain ⟨r15, hr16, h⟩ := h
      refine J.loud (Loud.callL body48 (t_ref03_Relabel fuel v0 v1 z2 v3 r15 hr16) rfl (LentAll.cons (Lent.fact 0 rfl) (LentAll.cons (Lent.fact 1 rfl) (LentAll.cons (Lent.fact 2 rfl) (LentAll.nil)))) (fun _ _ => rfl)) rfl fun x17 => ?_
      refine J.quiet (Y.move rfl) rfl ?_
      refine J.quiet (Y.extract rfl rfl) rfl ?_
      refine J.quiet (Y.extract rfl rfl) rfl ?_
      refine J.loud (Loud.alloc (cs := [Value.slice none 0 0, Value.slice none 0 0]) rfl rfl) rfl fun b18 => ?_
      refine J.know (Know.one ((Lent.ar (Lent.res 1 rfl) FI64))) fun ho19 => ?_
      refine J.know (Know.one (Lent.sl (Lent.rows (i := 2) (j := 3) rfl rfl FI64I64p))) fun ho20 => ?_
      refine J.storeAll 0 (vs := [x17.1, x17.2.1]) rfl rfl (all1 ho19 (all1 ho20 rfl)) rfl rfl rfl ?_
      refine J.quiet (Y.assign rfl) rfl ?_
      refine J.done ?_
      refine J.thenN ?_
      refine J.seq ?_
      refine J.region ?_
      refine J.quiet (Y.loadBAll 8 rfl rfl rfl rfl) rfl ?_
      refine J.quiet (Y.move rfl) rfl ?_
      replace h := bnd h; obtain ⟨r21, hr22, h⟩ := h
      refine J.loud (Loud.callL body49 (t_family_Identify fuel v0 v1 z2 v4 r21 hr22) rfl (LentAll.cons (Lent.fact 0 rfl) (LentAll.cons (Lent.fact 1 rfl) (LentAll.cons (Lent.fact 3 rfl) (LentAll.nil)))) (fun _ _ => rfl)) rfl fun x23 => ?_
      refine J.quiet (Y.move rfl) rfl ?_
      refine J.quiet (Y.extract rfl rfl) rfl ?_
      refine J.quiet (Y.extract rfl rfl) rfl ?_
      refine J.loud (Loud.alloc (cs := [Value.slice none 0 0, Value.slice none 0 0]) rfl rfl) rfl fun b24 => ?_
      refine J.know (Know.one ((Lent.ar (Lent.res 1 rfl) FI64))) fun ho25 => ?_
      refine J.know (Know.one (Lent.sl (Lent.rows (i := 2) (j := 3) rfl rfl FI64I64p))) fun ho26 => ?_
      refine J.storeAll 0 (vs := [x23.1, x23.2.1]) rfl rfl (all1 ho25 (all1 ho26 rfl)) rfl rfl rfl ?_
      refine J.quiet (Y.assign rfl) rfl ?_
      refine J.done ?_
      refine J.thenN ?_
      refine J.seq ?_
      refine J.region ?_
      refine J.quiet (Y.loadBAll 12 rfl rfl rfl rfl) rfl ?_
      refine J.quiet (Y.move rfl) rfl ?_
      replace h := bnd h; obtain ⟨r27, hr28, h⟩ := h
      refine J.loud (Loud.callL body50 (t_ref03_Identify fuel v0 v1 z2 v4 r27 hr28) rfl (LentAll.cons (Lent.fact 0 rfl) (LentAll.cons (Lent.fact 1 rfl) (LentAll.cons (Lent.fact 3 rfl) (LentAll.nil)))) (fun _ _ => rfl)) rfl fun x29 => ?_
      refine J.quiet (Y.move rfl) rfl ?_
      refine J.quiet (Y.extract rfl rfl) rfl ?_
      refine J.quiet (Y.extract rfl rfl) rfl ?_
      refine J.loud (Loud.alloc (cs := [Value.slice none 0 0, Value.slice none 0 0]) rfl rfl) rfl fun b30 => ?_
      refine J.know (Know.one ((Lent.ar (Lent.res 1 rfl) FI64))) fun ho31 => ?_
      refine J.know (Know.one (Lent.sl (Lent.rows (i := 2) (j := 3) rfl rfl FI64I64p))) fun ho32 => ?_
      refine J.storeAll 0 (vs := [x29.1, x29.2.1]) rfl rfl (all1 ho31 (all1 ho32 rfl)) rfl rfl rfl ?_
      refine J.quiet (Y.assign rfl) rfl ?_
      refine J.done ?_
      refine J.thenN ?_
      refine J.seq ?_
      refine J.midI (A := Bool) (B := Unit) (fun a34 => law03_FamilyRenames_k2  a34 = some r) (fun a34 b35 => [(6, Value.bool (a34))]) (fun a34 b35 => []) (fun a34 b35 => [Sl RI64 v0 p0.1, S2 RI64I64p v1 z2 p0.2, Sl RI64 v3 p1, Sl RI64 v4 p2]) ?_ ?_
      · refine J.region ?_
        replace h := bnd h; obtain ⟨r36, hr37, h⟩ := h
        refine J.loud (Loud.callL body18 (t_law03_awake fuel  r36 hr37) rfl (LentAll.nil) (fun _ _ => rfl)) rfl fun x38 => ?_
        refine J.quiet (Y.move rfl) rfl ?_
        refine J.guard (by exact rfl) (by exact rfl) (fun hp39 => ?_) (fun hp39 => ?_)
        · replace h := ifP hp39 h
          refine J.guardY rfl (Y.loadBAll 12 rfl rfl rfl rfl) rfl ?_
          refine J.guardY rfl (Y.loadBAll 8 rfl rfl rfl rfl) rfl ?_
          replace h := bnd h; obtain ⟨r40, hr41, h⟩ := h
          refine J.loudG rfl (Loud.callL body21 (t_ref01_Same fuel x11.1 x11.2.1 (List.zip x11.2.2 r9.1.2) x17.1 x17.2.1 (List.zip x17.2.2 r15.1.2) r40 hr41) rfl (LentAll.cons (Lent.ar (Lent.res 13 rfl) FI64) (LentAll.cons (Lent.rows (i := 14) (j := 15) rfl rfl FI64I64p) (LentAll.cons (Lent.ar (Lent.res 9 rfl) FI64) (LentAll.cons (Lent.rows (i := 10) (j := 11) rfl rfl FI64I64p) (LentAll.nil))))) (fun _ _ => rfl)) rfl fun x42 => ?_
          refine J.quiet (Y.pickT rfl rfl) rfl ?_
          refine J.quiet (Y.move rfl) rfl ?_
          refine J.guard (by exact rfl) (by exact rfl) (fun hp43 => ?_) (fun hp43 => ?_)
          · replace h := ifP hp43 h
            refine J.guardY rfl (Y.move rfl) rfl ?_
            refine J.guardY rfl (Y.move rfl) rfl ?_
            refine J.guardY rfl (Y.eql rfl rfl) rfl ?_
            refine J.quiet (Y.pickT rfl rfl) rfl ?_
            refine J.quiet (Y.move rfl) rfl ?_
            refine J.guardD (by exact rfl) (by exact rfl) (fun hp44 => ?_) (fun hp44 => ?_)
            · replace h := ifP hp44 h
              refine J.guardY rfl (Y.loadBAll 4 rfl rfl rfl rfl) rfl ?_
              refine J.guardY rfl (Y.loadBAll 0 rfl rfl rfl rfl) rfl ?_
              replace h := bnd h; obtain ⟨r45, hr46, h⟩ := h
              refine J.loudG rfl (Loud.callL body21 (t_ref01_Same fuel x23.1 x23.2.1 (List.zip x23.2.2 r21.1.2) x29.1 x29.2.1 (List.zip x29.2.2 r27.1.2) r45 hr46) rfl (LentAll.cons (Lent.ar (Lent.res 5 rfl) FI64) (LentAll.cons (Lent.rows (i := 6) (j := 7) rfl rfl FI64I64p) (LentAll.cons (Lent.ar (Lent.res 1 rfl) FI64) (LentAll.cons (Lent.rows (i := 2) (j := 3) rfl rfl FI64I64p) (LentAll.nil))))) (fun _ _ => rfl)) rfl fun x47 => ?_
              refine J.quiet (Y.pickT rfl rfl) rfl ?_
              refine J.quiet (Y.move rfl) rfl ?_
              refine J.guard (by exact rfl) (by exact rfl) (fun hp48 => ?_) (fun hp48 => ?_)
              · replace h := ifP hp48 h
                refine J.guardY rfl (Y.move rfl) rfl ?_
                refine J.guardY rfl (Y.move rfl) rfl ?_
                refine J.guardY rfl (Y.eql rfl rfl) rfl ?_
                refine J.quiet (Y.pickT rfl rfl) rfl ?_
                refine J.quiet (Y.assign rfl) rfl ?_
                refine J.done ?_
                refine J.thenN ?_
                exact J.meetI (decide (r21.2 = r27.2)) (()) h (by repeat (first | exact SubF.nil | refine SubF.cons rfl ?_)) (SubM.nil) (LentAll.refl _ _)
              · replace h := ifBN hp48 h
                refine J.guardN rfl rfl rfl ?_
                refine J.guardN rfl rfl rfl ?_
                refine J.guardN rfl rfl rfl ?_
                refine J.quiet (Y.pickF rfl rfl) rfl ?_
                refine J.quiet (Y.assign rfl) rfl ?_
                refine J.done ?_
                refine J.thenN ?_
                exact J.meetI (false) (()) h (by repeat (first | exact SubF.nil | refine SubF.cons rfl ?_)) (SubM.nil) (LentAll.refl _ _)
            · replace h := ifN hp44 h
              refine J.guardN rfl rfl rfl ?_
              refine J.guardN rfl rfl rfl ?_
              refine J.guardN rfl rfl rfl ?_
              refine J.quiet (Y.pickF rfl rfl) rfl ?_
              refine J.quiet (Y.move rfl) rfl ?_
              refine J.guardN rfl rfl rfl ?_
              refine J.guardN rfl rfl rfl ?_
              refine J.guardN rfl rfl rfl ?_
              refine J.quiet (Y.pickF rfl rfl) rfl ?_
              refine J.quiet (Y.assign rfl) rfl ?_
              refine J.done ?_
              refine J.thenN ?_
              exact J.meetI (false) (()) h (by repeat (first | exact SubF.nil | refine SubF.cons rfl ?_)) (SubM.nil) (LentAll.refl _ _)
          · replace h := ifBN hp43 h
            refine J.guardN rfl rfl rfl ?_
            refine J.guardN rfl rfl rfl ?_
            refine J.guardN rfl rfl rfl ?_
            refine J.quiet (Y.pickF rfl rfl) rfl ?_
            refine J.quiet (Y.move rfl) rfl ?_
            refine J.guardN rfl rfl rfl ?_
            refine J.guardN rfl rfl rfl ?_
            refine J.guardN rfl rfl rfl ?_
            refine J.quiet (Y.pickF rfl rfl) rfl ?_
            refine J.quiet (Y.move rfl) rfl ?_
            refine J.guardN rfl rfl rfl ?_
            refine J.guardN rfl rfl rfl ?_
            refine J.guardN rfl rfl rfl ?_
            refine J.quiet (Y.pickF rfl rfl) rfl ?_
            refine J.quiet (Y.assign rfl) rfl ?_
            refine J.done ?_
            refine J.thenN ?_
            exact J.meetI (false) (()) h (by repeat (first | exact SubF.nil | refine SubF.cons rfl ?_)) (SubM.nil) (LentAll.refl _ _)
        · replace h := ifBN hp39 h
          refine J.guardN rfl rfl rfl ?_
          refine J.guardN rfl rfl rfl ?_
          refine J.guardN rfl rfl rfl ?_
          refine J.quiet (Y.pickF rfl rfl) rfl ?_
          refine J.quiet (Y.move rfl) rfl ?_
          refine J.guardN rfl rfl rfl ?_
          refine J.guardN rfl rfl rfl ?_
          refine J.guardN rfl rfl rfl ?_
          refine J.quiet (Y.pickF rfl rfl) rfl ?_
          refine J.quiet (Y.move rfl) rfl ?_
          refine J.guardN rfl rfl rfl ?_
          refine J.guardN rfl rfl rfl ?_
          refine J.guardN rfl rfl rfl ?_
          refine J.quiet (Y.pickF rfl rfl) rfl ?_
          refine J.quiet (Y.move rfl) rfl ?_
          refine J.guardN rfl rfl rfl ?_
          refine J.guardN rfl rfl rfl ?_
          refine J.guardN rfl rfl rfl ?_
          refine J.quiet (Y.pickF rfl rfl) rfl ?_
          refine J.quiet (Y.assign rfl) rfl ?_
          refine J.done ?_
          refine J.thenN ?_
          exact J.meetI (false) (()) h (by repeat (first | exact SubF.nil | refine SubF.cons rfl ?_)) (SubM.nil) (LentAll.refl _ _)
      · clear h
        intro a34 b35 h
        unfold law03_FamilyRenames_k2 at h
        refine J.ret ?_
        obtain rfl := Option.some.inj h
        exact J.retG1 (()) rfl rfl (RV.tmp rfl) (SubM.refl _) LentAll.nil

end Go.Proofs.Ytemhmmcakmidkaa
end
section
set_option linter.unusedVariables false
set_option linter.unusedSimpArgs false
namespace Go.Proofs.Ytemhmmcakmidkaa
open Go.Sx
theorem take_snoc {α : Type} [Inhabited α] (l : List α) {k : Nat} (h : k < l.length) : l.take (k + 1) = l.take k ++ [at' l (k : Int)] := by
  rw [List.take_add_one, List.getElem?_eq_getElem h, at'_nat, List.getD_eq_getElem?_getD, List.getElem?_eq_getElem h]
  rfl

theorem clone_eq (l : List Int) (h : l.length ≤ 900) : m_slices_Clone 1000 l = some l := by
  unfold m_slices_Clone
  rw [ckT (by simp; omega)]
  rfl

theorem copied_eq (ps : List (List (Int × Int))) (h : ps.length ≤ 900) (hr : ∀ v, v < ps.length → (at' ps (v : Int)).length ≤ 900) : m_family_copied 1000 ps = some ps := by
  unfold m_family_copied
  rw [ckT (by omega), Int.toNat_natCast]
  refine iter_eq (fun z : Int × List (List (Int × Int)) => ∃ k : Nat, z.1 = k ∧ k ≤ ps.length ∧ z.2 = ps.take k ++ List.replicate (ps.length - k) []) (fun z => ps.length - z.1.toNat) ?_ 1000 _ ⟨0, rfl, by omega, by simp⟩ (by simp; omega)
  rintro ⟨x, l⟩ ag ⟨k, hx, hk, hl⟩ hag
  dsimp only at hx hl hag
  subst hx hl
  unfold family_copied_s1
  dsimp only
  by_cases hn : k < ps.length
  · have := hr k hn
    rw [if_pos (by omega), ckT (by omega), ckT (by simp; omega), ckT (by simp; omega), wr (by omega) (by omega), Int.toNat_natCast]
    refine hag _ ⟨k + 1, by dsimp only; omega, by omega, ?_⟩ (by dsimp only; omega)
    dsimp only
    rw [take_snoc ps hn, show ps.length - k = (ps.length - (k + 1)) + 1 by omega, List.replicate_succ, set_at _ _ _ _ _ (by simp; omega)]
    simp
  · rw [if_neg (by omega)]
    obtain rfl : k = ps.length := by omega
    unfold family_copied_k1
    simp

theorem refCopy_eq (g : GR) (h1 : g.1.length ≤ 900) (h : g.2.length ≤ 900) (hr : ∀ v, v < g.2.length → (row g v).length ≤ 900) : m_ref03_Copy 1000 g = some g := by
  unfold m_ref03_Copy
  rw [ckT (by simp; omega)]
  refine iter_eq (fun z : Int × List (List (Int × Int)) => ∃ k : Nat, z.1 = k ∧ k ≤ g.2.length ∧ z.2 = g.2.take k) (fun z => g.2.length - z.1.toNat) ?_ 1000 _ ⟨0, rfl, by omega, rfl⟩ (by simp; omega)
  rintro ⟨x, l⟩ ag ⟨k, hx, hk, hl⟩ hag
  dsimp only at hx hl hag
  subst hx hl
  unfold ref03_Copy_s1
  dsimp only
  by_cases hn : k < g.2.length
  · have := hr k hn
    have q1 : (at' g.2 (k : Int)).length = (row g k).length := rfl
    rw [if_pos (by omega), ckT (by omega), ckT (by simp; omega), ckT (by simp; omega), wr (by omega) (by omega)]
    refine hag _ ⟨k + 1, by dsimp only; omega, by omega, ?_⟩ (by dsimp only; omega)
    dsimp only
    rw [take_snoc g.2 hn]
    rfl
  · rw [if_neg (by omega)]
    obtain rfl : k = g.2.length := by omega
    unfold ref03_Copy_k1
    simp

/-- both answer alike, with a graph that can be compared -/
def Alike (a b : Option (GR × Int)) : Prop := ∃ r, a = some r ∧ b = some r ∧ small r.1
theorem Alike.err (e : Int) : Alike (some (([], []), e)) (some (([], []), e)) := ⟨_, rfl, rfl, by simp [small]⟩

theorem relabel_alike {g : GR} (hl : light g) (p : List Int) : Alike (m_family_Relabel 1000 g p) (m_ref03_Relabel 1000 g p) := by
  by_cases hV : VG g
  · have h24 := hV.n24
    by_cases hp : IsPerm p g.2.length
    · obtain ⟨⟨a, x⟩, ha, hx, hra⟩ := famRelabel_ok hV hp
      obtain ⟨⟨b, y⟩, hb, hy, hrb⟩ := refRelabel_ok hV hp
      dsimp only at hx hy hra hrb
      subst hx hy
      have := hra.unique hp hrb
      subst this
      exact ⟨_, ha, hb, (hra.valid hV hp).small⟩
    · have e1 : m_family_Relabel 1000 g p = some (([], []), 2) := by
        unfold m_family_Relabel
        rw [bindS ((valid_eq g hl).1 hV), if_neg (by simp), hV.len, bindS ((famPermutation_eq p g.2.length (by omega)).2 hp)]
        rfl
      have e2 : m_ref03_Relabel 1000 g p = some (([], []), 2) := by
        unfold m_ref03_Relabel
        rw [bindS ((refValid_eq g hl).1 hV), if_neg (by simp), bindS ((refPermutation_eq p g.2.length (by omega)).2 hp)]
        rfl
      rw [e1, e2]; exact Alike.err 2
  · have e1 : m_family_Relabel 1000 g p = some (([], []), 1) := by
      unfold m_family_Relabel
      rw [bindS ((valid_eq g hl).2 hV)]
      rfl
    have e2 : m_ref03_Relabel 1000 g p = some (([], []), 1) := by
      unfold m_ref03_Relabel
      rw [bindS ((refValid_eq g hl).2 hV)]
      rfl
    rw [e1, e2]; exact Alike.err 1

/-- other identifiers -/
theorem ids_valid {g : GR} (hV : VG g) (l : List Int) (hl : l.length = g.2.length) : VG (l, g.2) ↔ ∀ k, k < l.length → IdOk l k := by
  constructor
  · intro h k hk
    have hN := h.node k (by rw [← hl]; exact hk)
    exact ⟨hN.id, hN.ids⟩
  · intro h
    refine ⟨hV.n1, hV.n24, hl, fun v hv => ?_, hV.sym⟩
    have hN := hV.node v hv
    have hi := h v (by rw [hl]; exact hv)
    exact ⟨hi.1, hN.deg, hN.links, hi.2⟩

theorem identify_alike {g : GR} (hl : light g) (l : List Int) (hll : l.length ≤ 40) : Alike (m_family_Identify 1000 g l) (m_ref03_Identify 1000 g l) := by
  by_cases hV : VG g
  rotate_left
  · have e1 : m_family_Identify 1000 g l = some (([], []), 1) := by
      unfold m_family_Identify
      rw [bindS ((valid_eq g hl).2 hV)]
      rfl
    have e2 : m_ref03_Identify 1000 g l = some (([], []), 1) := by
      unfold m_ref03_Identify
      rw [bindS ((refValid_eq g hl).2 hV)]
      rfl
    rw [e1, e2]; exact Alike.err 1
  have h24 := hV.n24
  have h1 := hV.n1
  have hlen := hV.len
  have hc := refCopy_eq g (by omega) (by omega) (fun v hv => by have := (hV.node v hv).deg; omega)
  have hc2 := copied_eq g.2 (by omega) (fun v hv => by have := (hV.node v hv).deg; have q : (at' g.2 (v : Int)).length = (row g v).length := rfl; omega)
  have e2 : m_ref03_Identify 1000 g l = Option.bind (m_ref01_Valid 1000 (l, g.2)) fun r16 => (if (!r16) = true then (some (([], []), (2 : Int))) else (some ((l, g.2), (0 : Int)))) := by
    unfold m_ref03_Identify
    rw [bindS ((refValid_eq g hl).1 hV), if_neg (by simp), bindS hc, ckT (by simp; omega)]
    rfl
  have e1 : m_family_Identify 1000 g l = if (l.length : Int) ≠ (g.1.length : Int) then (family_Identify_k1 1000 g l (true)) else (Option.bind (m_graph_DifferentIDs 1000 l) fun r22 => (family_Identify_k1 1000 g l ((!r22)))) := by
    unfold m_family_Identify
    rw [bindS ((valid_eq g hl).1 hV), if_neg (by simp)]
  rw [e1, e2]
  by_cases he : l.length = g.2.length
  · rw [if_neg (by omega)]
    have hlg : light (l, g.2) := ⟨by dsimp only; omega, hl.2.1, hl.2.2⟩
    by_cases hi : ∀ k, k < l.length → IdOk l k
    · have hW := (ids_valid hV l he).2 hi
      rw [bindS ((differentIDs_eq l (by omega)).1 hi), bindS ((refValid_eq (l, g.2) hlg).1 hW)]
      unfold family_Identify_k1
      rw [if_neg (by simp), if_neg (by simp), bindS (clone_eq l (by omega)), bindS hc2]
      exact ⟨_, rfl, rfl, hW.small⟩
    · have hW : ¬ VG (l, g.2) := fun h => hi ((ids_valid hV l he).1 h)
      rw [bindS ((differentIDs_eq l (by omega)).2 hi), bindS ((refValid_eq (l, g.2) hlg).2 hW)]
      exact Alike.err 2
  · rw [if_pos (by omega)]
    have hv : m_ref01_Valid 1000 (l, g.2) = some false := by
      unfold m_ref01_Valid ref01_Valid_k1
      dsimp only
      rw [refIn_eq, decide_eq_true (by omega), bindS rfl, if_neg (by simp), decide_eq_true (by omega)]
      rfl
    rw [bindS hv]
    exact Alike.err 2

theorem renames_pure (g : GR) (p l : List Int) : m_law03_FamilyRenames 1000 g p l = some true := by
  unfold m_law03_FamilyRenames
  have aw : law03_FamilyRenames_k1 1000 g p l true = some true := by
    unfold law03_FamilyRenames_k1
    rw [if_pos rfl, bindS awakeK]
  by_cases hl : light g
  rotate_left
  · rw [bindS ((lightGraph_eq g).2 hl), if_pos (by rfl)]; exact aw
  rw [bindS ((lightGraph_eq g).1 hl), if_neg (by simp)]
  by_cases hp : (40 : Int) < p.length
  · rw [if_pos hp]; exact aw
  rw [if_neg hp]
  by_cases hq : (40 : Int) < l.length
  · rw [decide_eq_true hq]; exact aw
  rw [decide_eq_false hq]
  obtain ⟨r1, a1, b1, s1⟩ := relabel_alike hl p
  obtain ⟨r2, a2, b2, s2⟩ := identify_alike hl l (by omega)
  unfold law03_FamilyRenames_k1
  rw [if_neg (by simp), bindS a1, bindS b1, bindS a2, bindS b2, bindS awakeK, if_pos rfl, bindS (same_refl _ s1), if_pos rfl, if_pos rfl, bindS (same_refl _ s2), if_pos rfl, decide_eq_true rfl]
  rfl
end Go.Proofs.Ytemhmmcakmidkaa
end
