/- Models of functions with their proofs, by program (gen/xt.py), and plain laws, in one text. Conditions: none. -/
import Derived.Test.YtemhmmcakmidkaaZFCh1
import Derived.Test.YtemhmmcakmidkaaXp
section
set_option linter.unusedVariables false
set_option linter.unusedSimpArgs false
namespace Go.Proofs.Ytemhmmcakmidkaa
open Go.Sx
set_option linter.unusedVariables false
/-- a graph of a size that a loop of the laws can go through -/
def small (g : GG) : Prop := g.1.length ≤ 900 ∧ g.2.length ≤ 900 ∧ ∀ l ∈ g.2, l.length ≤ 900

theorem at_mem {α : Type} [Inhabited α] (l : List α) (i : Int) (h0 : 0 ≤ i) (h1 : i < l.length) : at' l i ∈ l := List.mem_of_getElem? (at'_some h0 h1)

theorem same_refl (g : GG) (h : small g) : m_ref01_Same 1000 g g = some true := by
  obtain ⟨h1, h2, h3⟩ := h
  unfold m_ref01_Same ref01_Same_k1
  rw [if_neg (by simp), if_neg (by simp)]
  refine iter_eq (fun i : Int => 0 ≤ i ∧ i ≤ g.1.length) (fun i : Int => g.1.length - i.toNat) ?_ 1000 _ (by omega) (by omega)
  rintro i ag ⟨i0, i1⟩ hag
  unfold ref01_Same_s3
  by_cases hi : i < g.1.length
  · rw [if_pos hi, ckT ⟨i0, hi⟩, ckT ⟨i0, hi⟩, if_neg (by simp), wr (by omega) (by omega)]
    exact hag _ (by omega) (by omega)
  · rw [if_neg hi]
    unfold ref01_Same_k2
    refine iter_eq (fun i : Int => 0 ≤ i ∧ i ≤ g.2.length) (fun i : Int => g.2.length - i.toNat) ?_ 1000 _ (by omega) (by omega)
    rintro v ag ⟨v0, v1⟩ hag
    unfold ref01_Same_s1
    by_cases hv : v < g.2.length
    · have hrow := h3 _ (at_mem g.2 v v0 hv)
      rw [if_pos hv, ckT ⟨v0, hv⟩, ckT ⟨v0, hv⟩, if_neg (by simp)]
      refine iter_eq (fun i : Int => 0 ≤ i ∧ i ≤ (at' g.2 v).length) (fun i : Int => (at' g.2 v).length - i.toNat) ?_ 1000 _ (by omega) (by omega)
      rintro i ag2 ⟨i0, i1⟩ hag2
      unfold ref01_Same_s2
      rw [ckT ⟨v0, hv⟩]
      by_cases hi : i < (at' g.2 v).length
      · rw [if_pos hi, ckT ⟨v0, hv⟩, ckT ⟨i0, hi⟩, ckT ⟨v0, hv⟩, ckT ⟨i0, hi⟩, if_neg (by simp), wr (by omega) (by omega)]
        exact hag2 _ (by omega) (by omega)
      · rw [if_neg hi]
        unfold ref01_Same_k4
        rw [wr (by omega) (by omega)]
        exact hag _ (by omega) (by omega)
    · rw [if_neg hv]; rfl

/-! ## Complete graphs -/
/-! ## Grids -/
end Go.Proofs.Ytemhmmcakmidkaa
end
section
set_option linter.unusedVariables false
set_option linter.unusedSimpArgs false
namespace Go.Proofs.Ytemhmmcakmidkaa
open Go.Sx
theorem VG.small {g : GR} (h : VG g) : small g := by
  have h24 := h.n24
  refine ⟨by have := h.len; omega, by omega, fun l hl => ?_⟩
  obtain ⟨v, hv, he⟩ := List.getElem_of_mem hl
  have hd := (h.node v hv).deg
  rw [row, at'_nat, List.getD_eq_getElem?_getD, List.getElem?_eq_getElem hv] at hd
  rw [← he]
  simp only [Option.getD_some] at hd
  omega

theorem Rel.walk {g h : GR} {p : List Int} (hV : VG g) (hp : IsPerm p g.2.length) (r : Rel g p h) {s : Nat} : ∀ (k v : Nat), Walk g s k v → Walk h (pm p s) k (pm p v)
  | 0, v, hw => by
    obtain ⟨rfl, hs⟩ := hw
    exact ⟨rfl, by rw [r.len2]; exact (hp.pm hs).2⟩
  | k + 1, v, hw => by
    obtain ⟨u, h1, h2⟩ := hw
    have hu := Walk.lt hV h1
    exact ⟨pm p u, Rel.walk hV hp r k u h1, (r.adj hV hp hu (hV.adj_lt hu h2)).2 h2⟩

/-- the inverse of a permutation -/
def IsInv (p q : List Int) (n : Nat) : Prop := q.length = n ∧ ∀ v, v < n → at' q ((pm p v : Nat) : Int) = (v : Int)

theorem Rel.back {g h k : GR} {p q : List Int} (hV : VG g) (hp : IsPerm p g.2.length) (hq : IsInv p q g.2.length) (r : Rel g p h) (r2 : Rel h q k) : k = g := by
  have l2 := r.len2
  have key : ∀ v, v < g.2.length → pm q (pm p v) = v := fun v hv => by
    have := hq.2 v hv
    show (at' q ((pm p v : Nat) : Int)).toNat = v
    omega
  refine gr_ext (by rw [r2.len1, l2, hV.len]) (by rw [r2.len2, l2]) (fun v hv => ?_) (fun v hv => ?_)
  · rw [r2.len1, l2] at hv
    have := r2.ids (pm p v) (by rw [l2]; exact (hp.pm hv).2)
    rw [key v hv, r.ids v hv] at this
    exact this
  · rw [r2.len2, l2] at hv
    have := r2.row (pm p v) (by rw [l2]; exact (hp.pm hv).2)
    rw [key v hv, r.row v hv] at this
    rw [this]
    unfold mp
    rw [List.map_map]
    refine List.ext_getElem (by simp) fun i hi hi' => ?_
    rw [List.getElem_map]
    have hl : lnk (Go.Proofs.Ytemhmmcakmidkaa.row g v) i = (Go.Proofs.Ytemhmmcakmidkaa.row g v)[i] := by rw [lnk, at'_nat, List.getD_eq_getElem?_getD, List.getElem?_eq_getElem hi']; rfl
    obtain ⟨u, hu, e1, _⟩ := hV.port hv hi'
    rw [hl] at e1
    show (at' q (at' p (Go.Proofs.Ytemhmmcakmidkaa.row g v)[i].1), (Go.Proofs.Ytemhmmcakmidkaa.row g v)[i].2) = _
    rw [e1, (hp.pm hu).1, hq.2 u hu]
    exact Prod.ext e1.symm rfl

end Go.Proofs.Ytemhmmcakmidkaa
end
section
set_option linter.unusedVariables false
set_option linter.unusedSimpArgs false
namespace Go.Proofs.Ytemhmmcakmidkaa
open Go.Sx
set_option linter.unusedVariables false
set_option linter.unusedSimpArgs false
def m_slices_Clone (fuel : Nat) (p0 : List (Int)) : Option (List (Int)) :=
  ck ((List.length ([] : List Int) : Int) + (List.length p0 : Int) ≤ 1099511627) (some (([] : List Int) ++ p0))

theorem body88 : HasBody Try.prog 88 := Try.call88

set_option maxHeartbeats 4000000 in
set_option maxRecDepth 20000 in
theorem t_slices_Clone (fuel : Nat) {p0 : List (Int)} (v0 : Value) (r : List (Int)) (h : m_slices_Clone fuel p0 = some r) :
    Meets Try.prog 88 #[v0] [Sl RI64 v0 p0] (fun x : Value => x) (fun x l => Ar EI64 x r :: l) (fun _ l => l) := by
  refine Meets.of (vs := [v0]) Try.func88 rfl Try.ntmps88 rfl fun c => ?_
  unfold m_slices_Clone at h
  refine J.seq ?_
  refine J.region ?_
  refine J.quiet (Y.assign rfl) rfl ?_
  refine J.done ?_
  refine J.thenN ?_
  refine J.seq ?_
  refine J.seq ?_
  refine J.region ?_
  refine J.quiet (Y.move rfl) rfl ?_
  refine J.nilCase (Lent.fact 0 rfl) (fun hn1 hx2 => ?_) (fun hn1 => ?_)
  · replace h : (some ([] : List Int)) = some r := by simpa [ck, hx2] using h
    refine J.quiet (Y.eqNil rfl (Lent.fact 0 rfl) hn1 rfl) rfl ?_
    refine J.done ?_
    refine J.thenN ?_
    refine J.condT rfl ?_
    refine J.seq ?_
    refine J.region ?_
    refine J.quiet (Y.assign rfl) rfl ?_
    refine J.done ?_
    refine J.thenN ?_
    refine J.ret ?_
    refine J.thenR ?_
    refine J.stp (Stp.nilAr EI64) ?_
    obtain rfl := Option.some.inj h
    exact J.retG1 (Value.slice none 0 0) rfl rfl (RV.tmp rfl) (SubM.refl _) LentAll.nil
  · refine J.quiet (Y.eqNil rfl (Lent.fact 0 rfl) hn1 rfl) rfl ?_
    refine J.done ?_
    refine J.thenN ?_
    refine J.condF rfl ?_
    refine J.skip ?_
    refine J.thenN ?_
    refine J.seq ?_
    refine J.region ?_
    refine J.loud (Loud.buildS (e := EI64) ([] : List Int) [] rfl rfl rfl rfl ((fun i h => by simp at h; subst h; rfl)) rfl rfl rfl) rfl fun u3 => ?_
    refine J.quiet (Y.move rfl) rfl ?_
    replace h := ck_some h; obtain ⟨hc5, h⟩ := h
    refine J.loud (Loud.appendL 0 FI64 rfl rfl rfl (Lent.fact 0 rfl) rfl rfl rfl rfl hc5 rfl) rfl fun u4 => ?_
    refine J.quiet (Y.assign rfl) rfl ?_
    refine J.done ?_
    refine J.thenN ?_
    refine J.ret ?_
    obtain rfl := Option.some.inj h
    exact J.retG1 (u4) rfl rfl (RV.tmp rfl) (SubM.refl _) LentAll.nil

end Go.Proofs.Ytemhmmcakmidkaa
end
section
set_option linter.unusedVariables false
set_option linter.unusedSimpArgs false
namespace Go.Proofs.Ytemhmmcakmidkaa
open Go.Sx
set_option linter.unusedVariables false
set_option linter.unusedSimpArgs false
def family_copied_k1  (a5 : (List (List (Int × Int)))) : Option ((List (List (Int × Int)))) :=
  some (a5)
def family_copied_s1 (p0 : List (List (Int × Int))) (a11 : Int × (List (List (Int × Int)))) (ag10 : (Int × (List (List (Int × Int)))) → Option ((List (List (Int × Int))))) : Option ((List (List (Int × Int)))) :=
  if a11.1 < (List.length p0 : Int) then (ck (0 ≤ a11.1 ∧ a11.1 < (List.length p0 : Int)) (ck ((List.length ([] : List (Int × Int)) : Int) + (List.length (at' p0 a11.1) : Int) ≤ 1099511627) (ck (0 ≤ a11.1 ∧ a11.1 < (List.length a11.2 : Int)) (ag10 ((wI .i64 (a11.1 + (1 : Int))), (List.set a11.2 (Int.toNat a11.1) (([] : List (Int × Int)) ++ (at' p0 a11.1)))))))) else (family_copied_k1  (a11.2))
def m_family_copied (fuel : Nat) (p0 : List (List (Int × Int))) : Option ((List (List (Int × Int)))) :=
  ck (0 ≤ (List.length p0 : Int) ∧ (List.length p0 : Int) ≤ 1099511627) (iter (family_copied_s1 p0) fuel ((0 : Int), (List.replicate (Int.toNat (List.length p0 : Int)) ([] : List (Int × Int)))))

theorem body89 : HasBody Try.prog 89 := Try.call89

set_option maxHeartbeats 4000000 in
set_option maxRecDepth 20000 in
theorem t_family_copied (fuel : Nat) {p0 : List (List (Int × Int))} (v0 : Value)  (z1 : List (Value × List (Int × Int))) (r : (List (List (Int × Int)))) (h : m_family_copied fuel p0 = some r) :
    Meets Try.prog 89 #[v0] [S2 RI64I64p v0 z1 p0] (fun x : Value × List Value => x.1) (fun x l => Ar Enc.raw x.1 x.2 :: Rws EI64I64p x.2 r :: l) (fun _ l => l) := by
  refine Meets.of (vs := [v0]) Try.func89 rfl Try.ntmps89 rfl fun c => ?_
  unfold m_family_copied at h
  refine J.seq ?_
  refine J.region ?_
  refine J.quiet (Y.assign rfl) rfl ?_
  refine J.done ?_
  refine J.thenN ?_
  refine J.seq ?_
  refine J.region ?_
  refine J.quiet (Y.move rfl) rfl ?_
  refine J.quiet (Y.lenN rfl (Lent.fact 0 rfl) rfl) rfl ?_
  replace h := ck_some h; obtain ⟨hc1, h⟩ := h
  refine J.stp (Stp.rowsNew EI64I64p (Int.toNat (List.length p0 : Int))) ?_
  refine J.loud (Loud.makeS (e := Enc.raw) (Value.slice none 0 0) rfl rfl rfl rfl hc1 rfl rfl rfl) rfl fun u2 => ?_
  refine J.quiet (Y.assign rfl) rfl ?_
  refine J.done ?_
  refine J.thenN ?_
  refine J.seq ?_
  refine J.midI (A := (List (List (Int × Int)))) (B := List Value) (fun a5 => family_copied_k1  a5 = some r) (fun a5 b6 => [(3, u2)]) (fun a5 b6 => [Ar Enc.raw u2 b6, Rws EI64I64p b6 a5]) (fun a5 b6 => [S2 RI64I64p v0 z1 p0]) ?_ ?_
  · refine J.seq ?_
    refine J.region ?_
    refine J.quiet (Y.move rfl) rfl ?_
    refine J.quiet (Y.lenN rfl (Lent.fact 0 rfl) rfl) rfl ?_
    refine J.quiet (Y.move rfl) rfl ?_
    refine J.done ?_
    refine J.thenN ?_
    refine J.block ?_
    refine J.loopI (A := Int × (List (List (Int × Int)))) (B := List Value) (family_copied_s1 p0) (fun a11 b12 => [(3, u2), (9, v0), (10, Value.int .i64 (List.length p0 : Int)), (11, Value.int .i64 (a11.1))]) (fun a11 b12 => [Ar Enc.raw u2 b12, Rws EI64I64p b12 a11.2]) (fun a11 b12 => [S2 RI64I64p v0 z1 p0]) ((0 : Int), (List.replicate (Int.toNat (List.length p0 : Int)) ([] : List (Int × Int)))) (List.replicate (Int.toNat (List.length p0 : Int)) (Value.slice none 0 0)) h (by repeat (first | exact SubF.nil | refine SubF.cons rfl ?_)) (SubM.refl _) (LentAll.refl _ _) ?_
    clear h
    intro k13 a11 b12 h
    unfold family_copied_s1 at h
    refine J.seq ?_
    refine J.region ?_
    refine J.quiet (Y.lss rfl rfl) rfl ?_
    refine J.done ?_
    refine J.thenN ?_
    refine J.seq ?_
    refine J.condD (by exact rfl) (fun hp14 => ?_) (fun hp14 => ?_)
    · replace h := ifP hp14 h
      refine J.skip ?_
      refine J.thenN ?_
      refine J.seq ?_
      refine J.block ?_
      refine J.seq ?_
      refine J.region ?_
      refine J.quiet (Y.move rfl) rfl ?_
      replace h := ck_some h; obtain ⟨hc15, h⟩ := h
      refine J.quiet (Y.indexN rfl rfl (Lent.fact 0 rfl) rfl rfl hc15) rfl ?_
      refine J.quiet (Y.loadRow rfl (Lent.fact 0 rfl) rfl rfl hc15) rfl ?_
      refine J.quiet (Y.assign rfl) rfl ?_
      refine J.quiet (Y.assign rfl) rfl ?_
      refine J.done ?_
      refine J.thenN ?_
      refine J.region ?_
      refine J.quiet (Y.move rfl) rfl ?_
      refine J.quiet (Y.move rfl) rfl ?_
      refine J.quiet (Y.move rfl) rfl ?_
      refine J.stp (Stp.nilAr EI64I64p) ?_
      replace h := ck_some h; obtain ⟨hc17, h⟩ := h
      refine J.loud (Loud.appendL 0 FI64I64p rfl rfl rfl (Lent.el (Lent.fact 0 rfl) hc15.1 hc15.2) rfl rfl rfl rfl hc17 rfl) rfl fun u16 => ?_
      replace h := ck_some h; obtain ⟨hc18, h⟩ := h
      refine J.quiet (Y.indexN rfl rfl (Lent.rows (i := 1) (j := 2) rfl rfl FI64I64p) rfl rfl hc18) rfl ?_
      refine J.know (Know.one ((Lent.ar (Lent.res 0 rfl) FI64I64p))) fun ho19 => ?_
      refine J.stp (Stp.putRow (k := a11.1) 2 0 rfl rfl rfl hc18) ?_
      refine J.storeRow 0 1 ⟨hc18.1, by simpa using hc18.2⟩ rfl rfl rfl rfl rfl (by simp) ho19 rfl ?_
      refine J.done ?_
      refine J.inN ?_
      refine J.thenN ?_
      refine J.region ?_
      refine J.quiet (Y.addW rfl rfl) rfl ?_
      refine J.quiet (Y.move rfl) rfl ?_
      refine J.done ?_
      refine J.thenN ?_
      exact J.againI ((wI .i64 (a11.1 + (1 : Int))), (List.set a11.2 (Int.toNat a11.1) (([] : List (Int × Int)) ++ (at' p0 a11.1)))) (List.set b12 (Int.toNat a11.1) u16) h (by repeat (first | exact SubF.nil | refine SubF.cons rfl ?_)) (SubM.refl _) (LentAll.refl _ _)
    · replace h := ifN hp14 h
      refine J.exit ?_
      refine J.thenX ?_
      refine J.thenX ?_
      refine J.inX ?_
      refine J.thenN ?_
      exact J.meetI (a11.2) (b12) h (by repeat (first | exact SubF.nil | refine SubF.cons rfl ?_)) (SubM.refl _) (LentAll.refl _ _)
  · clear h
    intro a5 b6 h
    unfold family_copied_k1 at h
    refine J.seq ?_
    refine J.region ?_
    refine J.quiet (Y.move rfl) rfl ?_
    refine J.quiet (Y.assign rfl) rfl ?_
    refine J.done ?_
    refine J.thenN ?_
    refine J.ret ?_
    obtain rfl := Option.some.inj h
    exact J.retG1 (u2, b6) rfl rfl (RV.tmp rfl) (SubM.refl _) LentAll.nil

end Go.Proofs.Ytemhmmcakmidkaa
end
section
set_option linter.unusedVariables false
set_option linter.unusedSimpArgs false
namespace Go.Proofs.Ytemhmmcakmidkaa
open Go.Sx
set_option linter.unusedVariables false
set_option linter.unusedSimpArgs false
def ref03_Copy_k1 (p0 : List (Int) × (List (List (Int × Int)))) (a11 : (List (List (Int × Int)))) : Option ((List (Int) × (List (List (Int × Int))))) :=
  some (((([] : List Int) ++ p0.1), a11))
def ref03_Copy_s1 (p0 : List (Int) × (List (List (Int × Int)))) (a20 : Int × (List (List (Int × Int)))) (ag19 : (Int × (List (List (Int × Int)))) → Option ((List (Int) × (List (List (Int × Int)))))) : Option ((List (Int) × (List (List (Int × Int))))) :=
  if a20.1 < (List.length p0.2 : Int) then (ck (0 ≤ a20.1 ∧ a20.1 < (List.length p0.2 : Int)) (ck ((List.length ([] : List (Int × Int)) : Int) + (List.length (at' p0.2 a20.1) : Int) ≤ 1099511627) (ck ((List.length a20.2 : Int) + (List.length ([ (([] : List (Int × Int)) ++ (at' p0.2 a20.1))]) : Int) ≤ 1099511627) (ag19 ((wI .i64 (a20.1 + (1 : Int))), (a20.2 ++ ([ (([] : List (Int × Int)) ++ (at' p0.2 a20.1))]))))))) else (ref03_Copy_k1 p0 (a20.2))
def m_ref03_Copy (fuel : Nat) (p0 : List (Int) × (List (List (Int × Int)))) : Option ((List (Int) × (List (List (Int × Int))))) :=
  ck ((List.length ([] : List Int) : Int) + (List.length p0.1 : Int) ≤ 1099511627) (iter (ref03_Copy_s1 p0) fuel ((0 : Int), ([] : List (List (Int × Int)))))

theorem body90 : HasBody Try.prog 90 := Try.call90

set_option maxHeartbeats 4000000 in
set_option maxRecDepth 20000 in
theorem t_ref03_Copy (fuel : Nat) {p0 : List (Int) × (List (List (Int × Int)))} (v0 : Value)  (v1 : Value)  (z2 : List (Value × List (Int × Int))) (r : (List (Int) × (List (List (Int × Int))))) (h : m_ref03_Copy fuel p0 = some r) :
    Meets Try.prog 90 #[Value.agg #[v0, v1]] [Sl RI64 v0 p0.1, S2 RI64I64p v1 z2 p0.2] (fun x : Value × Value × List Value => Value.agg #[x.1, x.2.1]) (fun x l => Ar EI64 x.1 r.1 :: Ar Enc.raw x.2.1 x.2.2 :: Rws EI64I64p x.2.2 r.2 :: l) (fun _ l => l) := by
  refine Meets.of (vs := [Value.agg #[v0, v1]]) Try.func90 rfl Try.ntmps90 rfl fun c => ?_
  unfold m_ref03_Copy at h
  refine J.seq ?_
  refine J.region ?_
  refine J.loud (Loud.box (cs := [v0, v1]) rfl rfl) rfl fun b1 => ?_
  refine J.loud (Loud.alloc (cs := [Value.slice none 0 0, Value.slice none 0 0]) rfl rfl) rfl fun b2 => ?_
  refine J.done ?_
  refine J.thenN ?_
  refine J.seq ?_
  refine J.region ?_
  refine J.quiet (Y.fieldB rfl rfl rfl rfl rfl) rfl ?_
  refine J.quiet (Y.loadB 1 rfl rfl rfl rfl rfl) rfl ?_
  refine J.stp (Stp.nilAr EI64) ?_
  replace h := ck_some h; obtain ⟨hc4, h⟩ := h
  refine J.loud (Loud.appendL 0 FI64 rfl rfl rfl (Lent.fact 0 rfl) rfl rfl rfl rfl hc4 rfl) rfl fun u3 => ?_
  refine J.know (Know.one ((Lent.ar (Lent.res 0 rfl) FI64))) fun ho5 => ?_
  refine J.quiet (Y.bld1 (r := Value.agg #[u3, Value.slice none 0 0]) rfl (by intro w; simp [Instr.build, Instr.fill, cells_intV, cells_boolV, cells_sliceV, cells_ptrV, cells_strV, cells_funcV, cells_agg, one_cells ho5])) rfl ?_
  refine J.loud (Loud.alloc (cs := [Value.slice none 0 0, Value.slice none 0 0]) rfl rfl) rfl fun b6 => ?_
  refine J.know (Know.one ((Lent.ar (Lent.res 1 rfl) FI64))) fun ho7 => ?_
  refine J.storeAll 0 (vs := [u3, Value.slice none 0 0]) rfl rfl (all1 ho7 (all1 rfl rfl)) rfl rfl rfl ?_
  refine J.done ?_
  refine J.thenN ?_
  refine J.seq ?_
  refine J.midI (A := (List (List (Int × Int)))) (B := Value × List Value) (fun a11 => ref03_Copy_k1 p0 a11 = some r) (fun a11 b12 => [(2, Value.pointer (some ⟨b2, 0, none⟩)), (3, Value.pointer (some ⟨b6, 0, none⟩))]) (fun a11 b12 => [Blk b6 [u3, b12.1] 26, Ar EI64 u3 (([] : List Int) ++ p0.1), Blk b2 [Value.slice none 0 0, Value.slice none 0 0] 26, Ar Enc.raw b12.1 b12.2, Rws EI64I64p b12.2 a11]) (fun a11 b12 => [Sl RI64 v0 p0.1, S2 RI64I64p v1 z2 p0.2]) ?_ ?_
  · refine J.seq ?_
    refine J.region ?_
    refine J.quiet (Y.assign rfl) rfl ?_
    refine J.done ?_
    refine J.thenN ?_
    refine J.block ?_
    refine J.stp (Stp.nilAr Enc.raw) (J.stp (Stp.rowsNil EI64I64p) ?_)
    refine J.loopI (A := Int × (List (List (Int × Int)))) (B := Value × List Value) (ref03_Copy_s1 p0) (fun a20 b21 => [(1, Value.pointer (some ⟨b1, 0, none⟩)), (2, Value.pointer (some ⟨b2, 0, none⟩)), (3, Value.pointer (some ⟨b6, 0, none⟩)), (4, Value.int .i64 (a20.1))]) (fun a20 b21 => [Blk b6 [u3, b21.1] 26, Ar EI64 u3 (([] : List Int) ++ p0.1), Blk b2 [Value.slice none 0 0, Value.slice none 0 0] 26, Blk b1 [v0, v1] 26, Ar Enc.raw b21.1 b21.2, Rws EI64I64p b21.2 a20.2]) (fun a20 b21 => [Sl RI64 v0 p0.1, S2 RI64I64p v1 z2 p0.2]) ((0 : Int), ([] : List (List (Int × Int)))) ((Value.slice none 0 0), ([] : List Value)) h (by repeat (first | exact SubF.nil | refine SubF.cons rfl ?_)) (SubM.cons 2 rfl (SubM.cons 2 rfl (SubM.cons 2 rfl (SubM.cons 2 rfl (SubM.cons 1 rfl (SubM.cons 0 rfl (SubM.nil))))))) (LentAll.refl _ _) ?_
    clear h
    intro k22 a20 b21 h
    unfold ref03_Copy_s1 at h
    refine J.seq ?_
    refine J.seq ?_
    refine J.region ?_
    refine J.quiet (Y.move rfl) rfl ?_
    refine J.quiet (Y.fieldB rfl rfl rfl rfl rfl) rfl ?_
    refine J.quiet (Y.loadB 3 rfl rfl rfl rfl rfl) rfl ?_
    refine J.quiet (Y.lenN rfl (Lent.fact 1 rfl) rfl) rfl ?_
    refine J.quiet (Y.lss rfl rfl) rfl ?_
    refine J.done ?_
    refine J.thenN ?_
    refine J.condD (by exact rfl) (fun hp23 => ?_) (fun hp23 => ?_)
    · replace h := ifP hp23 h
      refine J.skip ?_
      refine J.thenN ?_
      refine J.seq ?_
      refine J.block ?_
      refine JR.start [0, 1, 0, 4, 0, 28, 60, 124, 252, 511, 1023, 2047] 9 mixedOrders (by decide +kernel) ?_
      refine JR.open (by exact rfl) ?_
      refine JR.qt rfl (SubM.nil) (SubL.nil) (Y.fieldB rfl rfl rfl rfl rfl) HistOk.z ?_
      refine JR.qt rfl (SubM.cons 0 rfl (SubM.nil)) (SubL.nil) (Y.loadB 0 rfl rfl rfl rfl rfl) HistOk.z ?_
      refine JR.qt rfl (SubM.nil) (SubL.nil) (Y.fieldB rfl rfl rfl rfl rfl) HistOk.z ?_
      refine JR.qt rfl (SubM.cons 3 rfl (SubM.nil)) (SubL.nil) (Y.loadB 0 rfl rfl rfl rfl rfl) HistOk.z ?_
      refine JR.qt rfl (SubM.nil) (SubL.nil) (Y.move rfl) HistOk.z ?_
      replace h := ck_some h; obtain ⟨hc24, h⟩ := h
      refine JR.qt rfl (SubM.nil) (SubL.cons (List.mem_of_getElem? (i := 1) rfl) (SubL.nil)) (Y.indexN rfl rfl (Lent.fact 0 rfl) rfl rfl hc24) HistOk.z ?_
      refine JR.qt rfl (SubM.nil) (SubL.cons (List.mem_of_getElem? (i := 1) rfl) (SubL.nil)) (Y.loadRow rfl (Lent.fact 0 rfl) rfl rfl hc24) HistOk.z ?_
      refine JR.stp (Stp.nilAr EI64I64p) ?_
      replace h := ck_some h; obtain ⟨hc26, h⟩ := h
      refine JR.loud rfl rfl rfl (Loud.appendL 0 FI64I64p rfl rfl rfl (Lent.el (Lent.fact 1 rfl) hc24.1 hc24.2) rfl rfl rfl rfl hc26 rfl) rfl (fun u25 => (BsOk.b rfl (BsOk.b rfl (BsOk.b rfl (BsOk.b rfl (BsOk.b rfl (BsOk.h (SubM.cons 1 rfl (SubM.nil)) (SubL.nil) (BsOk.h (SubM.nil) (SubL.nil) BsOk.z)))))))) fun u25 => ?_
      refine JR.stp (Stp.rowsNil EI64I64p) ?_
      refine JR.know (Know.one ((Lent.ar (Lent.res 1 rfl) FI64I64p))) fun ho27 => ?_
      refine JR.stp (Stp.addRow 0 1 rfl rfl rfl) ?_
      refine JR.loud rfl rfl rfl (Loud.buildS (e := Enc.raw) [u25] [(0, u25)] rfl rfl rfl rfl (fill_1_1 (u25) ho27) rfl rfl (by simp [cellsOf, Enc.raw, ho27])) rfl (fun u28 => (BsOk.b rfl (BsOk.b rfl (BsOk.b rfl (BsOk.b rfl (BsOk.b rfl (BsOk.h (SubM.cons 2 rfl (SubM.nil)) (SubL.nil) (BsOk.h (SubM.nil) (SubL.nil) BsOk.z)))))))) fun u28 => ?_
      refine JR.tailD 9 rfl rfl ?_
      refine J.know (Know.rws 7 rfl) fun hl29 => J.know (Know.rws 1 rfl) fun hl30 => ?_
      replace h := ck_some h; obtain ⟨hc31, h⟩ := h
      refine J.stp (Stp.catRows 7 1 rfl rfl rfl) ?_
      refine J.loud (Loud.append 5 0 rfl rfl rfl rfl rfl rfl rfl (by have q := hc31; have q1 := hl29; have q2 := hl30; (try simp only [List.length_cons, List.length_nil] at q q1 q2 ⊢); omega) (by have q := hc31; have q1 := hl29; have q2 := hl30; (try simp only [List.length_cons, List.length_nil] at q q1 q2 ⊢); omega) rfl) rfl fun u32 => ?_
      refine J.quiet (Y.fieldB rfl rfl rfl rfl rfl) rfl ?_
      refine J.know (Know.one (Lent.sl (Lent.rows (i := 5) (j := 6) rfl rfl FI64I64p))) fun ho33 => ?_
      refine J.store1 1 rfl rfl ho33 rfl rfl rfl ?_
      refine J.done ?_
      refine J.inN ?_
      refine J.thenN ?_
      refine J.region ?_
      refine J.quiet (Y.move rfl) rfl ?_
      refine J.quiet (Y.addW rfl rfl) rfl ?_
      refine J.quiet (Y.assign rfl) rfl ?_
      refine J.done ?_
      refine J.thenN ?_
      exact J.againI ((wI .i64 (a20.1 + (1 : Int))), (a20.2 ++ ([ (([] : List (Int × Int)) ++ (at' p0.2 a20.1))]))) (u32, (b21.2 ++ [u25])) h (by repeat (first | exact SubF.nil | refine SubF.cons rfl ?_)) (SubM.cons 1 rfl (SubM.cons 1 rfl (SubM.cons 1 rfl (SubM.cons 1 rfl (SubM.cons 1 rfl (SubM.cons 1 rfl (SubM.nil))))))) (LentAll.refl _ _)
    · replace h := ifN hp23 h
      refine J.exit ?_
      refine J.thenX ?_
      refine J.thenX ?_
      refine J.inX ?_
      refine J.thenN ?_
      exact J.meetI (a20.2) (b21.1, b21.2) h (by repeat (first | exact SubF.nil | refine SubF.cons rfl ?_)) (SubM.cons 0 rfl (SubM.cons 0 rfl (SubM.cons 0 rfl (SubM.cons 1 rfl (SubM.cons 1 rfl (SubM.nil)))))) (LentAll.refl _ _)
  · clear h
    intro a11 b12 h
    unfold ref03_Copy_k1 at h
    refine J.seq ?_
    refine J.region ?_
    refine J.quiet (Y.loadBAll 0 rfl rfl rfl rfl) rfl ?_
    refine J.know (Know.one ((Lent.ar (Lent.res 1 rfl) FI64))) fun ho13 => ?_
    refine J.know (Know.one (Lent.sl (Lent.rows (i := 3) (j := 4) rfl rfl FI64I64p))) fun ho14 => ?_
    refine J.storeAll 2 (vs := [u3, b12.1]) rfl rfl (all1 ho13 (all1 ho14 rfl)) rfl rfl rfl ?_
    refine J.done ?_
    refine J.thenN ?_
    refine J.ret ?_
    obtain rfl := Option.some.inj h
    exact J.retG1 (u3, b12.1, b12.2) rfl rfl (RV.cell 2 rfl rfl rfl rfl) (SubM.cons 1 rfl (SubM.cons 2 rfl (SubM.cons 2 rfl (SubM.nil)))) LentAll.nil

end Go.Proofs.Ytemhmmcakmidkaa
end
section
set_option linter.unusedVariables false
set_option linter.unusedSimpArgs false
namespace Go.Proofs.Ytemhmmcakmidkaa
open Go.Sx
theorem take_snoc {α : Type} [Inhabited α] (l : List α) {k : Nat} (h : k < l.length) : l.take (k + 1) = l.take k ++ [at' l (k : Int)] := by
  rw [List.take_add_one, List.getElem?_eq_getElem h, at'_nat, List.getD_eq_getElem?_getD, List.getElem?_eq_getElem h]
  rfl

theorem clone_eq (l : List Int) (h : l.length ≤ 900) : m_slices_Clone 1000 l = some l := by
  unfold m_slices_Clone
  rw [ckT (by simp; omega)]
  rfl

theorem copied_eq (ps : List (List (Int × Int))) (h : ps.length ≤ 900) (hr : ∀ v, v < ps.length → (at' ps (v : Int)).length ≤ 900) : m_family_copied 1000 ps = some ps := by
  unfold m_family_copied
  rw [ckT (by omega), Int.toNat_natCast]
  refine iter_eq (fun z : Int × List (List (Int × Int)) => ∃ k : Nat, z.1 = k ∧ k ≤ ps.length ∧ z.2 = ps.take k ++ List.replicate (ps.length - k) []) (fun z => ps.length - z.1.toNat) ?_ 1000 _ ⟨0, rfl, by omega, by simp⟩ (by simp; omega)
  rintro ⟨x, l⟩ ag ⟨k, hx, hk, hl⟩ hag
  dsimp only at hx hl hag
  subst hx hl
  unfold family_copied_s1
  dsimp only
  by_cases hn : k < ps.length
  · have := hr k hn
    rw [if_pos (by omega), ckT (by omega), ckT (by simp; omega), ckT (by simp; omega), wr (by omega) (by omega), Int.toNat_natCast]
    refine hag _ ⟨k + 1, by dsimp only; omega, by omega, ?_⟩ (by dsimp only; omega)
    dsimp only
    rw [take_snoc ps hn, show ps.length - k = (ps.length - (k + 1)) + 1 by omega, List.replicate_succ, set_at _ _ _ _ _ (by simp; omega)]
    simp
  · rw [if_neg (by omega)]
    obtain rfl : k = ps.length := by omega
    unfold family_copied_k1
    simp

theorem refCopy_eq (g : GR) (h1 : g.1.length ≤ 900) (h : g.2.length ≤ 900) (hr : ∀ v, v < g.2.length → (row g v).length ≤ 900) : m_ref03_Copy 1000 g = some g := by
  unfold m_ref03_Copy
  rw [ckT (by simp; omega)]
  refine iter_eq (fun z : Int × List (List (Int × Int)) => ∃ k : Nat, z.1 = k ∧ k ≤ g.2.length ∧ z.2 = g.2.take k) (fun z => g.2.length - z.1.toNat) ?_ 1000 _ ⟨0, rfl, by omega, rfl⟩ (by simp; omega)
  rintro ⟨x, l⟩ ag ⟨k, hx, hk, hl⟩ hag
  dsimp only at hx hl hag
  subst hx hl
  unfold ref03_Copy_s1
  dsimp only
  by_cases hn : k < g.2.length
  · have := hr k hn
    have q1 : (at' g.2 (k : Int)).length = (row g k).length := rfl
    rw [if_pos (by omega), ckT (by omega), ckT (by simp; omega), ckT (by simp; omega), wr (by omega) (by omega)]
    refine hag _ ⟨k + 1, by dsimp only; omega, by omega, ?_⟩ (by dsimp only; omega)
    dsimp only
    rw [take_snoc g.2 hn]
    rfl
  · rw [if_neg (by omega)]
    obtain rfl : k = g.2.length := by omega
    unfold ref03_Copy_k1
    simp

/-- both answer alike, with a graph that can be compared -/
def Alike (a b : Option (GR × Int)) : Prop := ∃ r, a = some r ∧ b = some r ∧ small r.1
theorem Alike.err (e : Int) : Alike (some (([], []), e)) (some (([], []), e)) := ⟨_, rfl, rfl, by simp [small]⟩

end Go.Proofs.Ytemhmmcakmidkaa
end
section
set_option linter.unusedVariables false
set_option linter.unusedSimpArgs false
namespace Go.Proofs.Ytemhmmcakmidkaa
open Go.Sx
set_option linter.unusedVariables false
set_option linter.unusedSimpArgs false
def family_ends_k1 (p1 : Int) (p2 : Int) (a4 : Bool) : Option (((Int × Int) × (Int × Int)) × Bool) :=
  if a4 = true then (some ((((((0 : Int), (0 : Int))), (((0 : Int), (0 : Int))))), false)) else (some (((((p1, p2)), ((p2, p1)))), true))
def m_family_ends (fuel : Nat) (p0 : List (Int) × (List (List (Int × Int)))) (p1 : Int) (p2 : Int) : Option (((Int × Int) × (Int × Int)) × Bool) :=
  if p1 < (0 : Int) then (family_ends_k1 p1 p2 (true)) else (if (List.length p0.1 : Int) ≤ p1 then (family_ends_k1 p1 p2 (true)) else (if p2 < (0 : Int) then (family_ends_k1 p1 p2 (true)) else (if (List.length p0.1 : Int) ≤ p2 then (family_ends_k1 p1 p2 (true)) else (family_ends_k1 p1 p2 (decide (p1 = p2))))))

theorem body94 : HasBody Try.prog 94 := Try.call94

set_option maxHeartbeats 4000000 in
set_option maxRecDepth 20000 in
theorem t_family_ends (fuel : Nat) {p0 : List (Int) × (List (List (Int × Int)))} {p1 : Int} {p2 : Int} (v0 : Value)  (v1 : Value)  (z2 : List (Value × List (Int × Int))) (r : ((Int × Int) × (Int × Int)) × Bool) (h : m_family_ends fuel p0 p1 p2 = some r) :
    Meets Try.prog 94 #[Value.agg #[v0, v1], Value.int .i64 (p1), Value.int .i64 (p2)] [Sl RI64 v0 p0.1, S2 RI64I64p v1 z2 p0.2] (fun x : Unit => Value.tuple #[Value.agg #[Value.int .i64 (r.1.1.1), Value.int .i64 (r.1.1.2), Value.int .i64 (r.1.2.1), Value.int .i64 (r.1.2.2)], Value.bool (r.2)]) (fun x l => l) (fun _ l => l) := by
  refine Meets.of (vs := [Value.agg #[v0, v1], Value.int .i64 (p1), Value.int .i64 (p2)]) Try.func94 rfl Try.ntmps94 rfl fun c => ?_
  unfold m_family_ends at h
  refine J.seq ?_
  refine J.region ?_
  refine J.loud (Loud.box (cs := [v0, v1]) rfl rfl) rfl fun b1 => ?_
  refine J.loud (Loud.alloc (cs := [Value.int .i64 (0 : Int), Value.int .i64 (0 : Int), Value.int .i64 (0 : Int), Value.int .i64 (0 : Int)]) rfl rfl) rfl fun b2 => ?_
  refine J.quiet (Y.assign rfl) rfl ?_
  refine J.done ?_
  refine J.thenN ?_
  refine J.seq ?_
  refine J.region ?_
  refine J.quiet (Y.fieldB rfl rfl rfl rfl rfl) rfl ?_
  refine J.quiet (Y.loadB 1 rfl rfl rfl rfl rfl) rfl ?_
  refine J.quiet (Y.lenS rfl (Lent.fact 0 rfl) rfl) rfl ?_
  refine J.quiet (Y.assign rfl) rfl ?_
  refine J.done ?_
  refine J.thenN ?_
  refine J.seq ?_
  refine J.seq ?_
  refine J.midI (A := Bool) (B := Unit) (fun a4 => family_ends_k1 p1 p2 a4 = some r) (fun a4 b5 => [(1, Value.int .i64 (p1)), (2, Value.int .i64 (p2)), (6, Value.pointer (some ⟨b2, 0, none⟩)), (32, Value.bool (a4))]) (fun a4 b5 => [Blk b2 [Value.int .i64 (0 : Int), Value.int .i64 (0 : Int), Value.int .i64 (0 : Int), Value.int .i64 (0 : Int)] 76]) (fun a4 b5 => [Sl RI64 v0 p0.1, S2 RI64I64p v1 z2 p0.2]) ?_ ?_
  · refine J.region ?_
    refine J.quiet (Y.move rfl) rfl ?_
    refine J.quiet (Y.lss rfl rfl) rfl ?_
    refine J.quiet (Y.move rfl) rfl ?_
    refine J.guardD (by exact rfl) (by exact rfl) (fun hp7 => ?_) (fun hp7 => ?_)
    · replace h := ifP hp7 h
      refine J.guardN rfl rfl rfl ?_
      refine J.guardN rfl rfl rfl ?_
      refine J.guardN rfl rfl rfl ?_
      refine J.quiet (Y.pickT rfl rfl) rfl ?_
      refine J.quiet (Y.move rfl) rfl ?_
      refine J.guardN rfl rfl rfl ?_
      refine J.guardN rfl rfl rfl ?_
      refine J.quiet (Y.pickT rfl rfl) rfl ?_
      refine J.quiet (Y.move rfl) rfl ?_
      refine J.guardN rfl rfl rfl ?_
      refine J.guardN rfl rfl rfl ?_
      refine J.guardN rfl rfl rfl ?_
      refine J.quiet (Y.pickT rfl rfl) rfl ?_
      refine J.quiet (Y.move rfl) rfl ?_
      refine J.guardN rfl rfl rfl ?_
      refine J.guardN rfl rfl rfl ?_
      refine J.guardN rfl rfl rfl ?_
      refine J.quiet (Y.pickT rfl rfl) rfl ?_
      refine J.done ?_
      refine J.thenN ?_
      exact J.meetI (true) (()) h (by repeat (first | exact SubF.nil | refine SubF.cons rfl ?_)) (SubM.cons 0 rfl (SubM.nil)) (LentAll.refl _ _)
    · replace h := ifN hp7 h
      refine J.guardY rfl (Y.move rfl) rfl ?_
      refine J.guardY rfl (Y.move rfl) rfl ?_
      refine J.guardY rfl (Y.geq rfl rfl) rfl ?_
      refine J.quiet (Y.pickF rfl rfl) rfl ?_
      refine J.quiet (Y.move rfl) rfl ?_
      refine J.guardD (by exact rfl) (by exact rfl) (fun hp8 => ?_) (fun hp8 => ?_)
      · replace h := ifP hp8 h
        refine J.guardN rfl rfl rfl ?_
        refine J.guardN rfl rfl rfl ?_
        refine J.quiet (Y.pickT rfl rfl) rfl ?_
        refine J.quiet (Y.move rfl) rfl ?_
        refine J.guardN rfl rfl rfl ?_
        refine J.guardN rfl rfl rfl ?_
        refine J.guardN rfl rfl rfl ?_
        refine J.quiet (Y.pickT rfl rfl) rfl ?_
        refine J.quiet (Y.move rfl) rfl ?_
        refine J.guardN rfl rfl rfl ?_
        refine J.guardN rfl rfl rfl ?_
        refine J.guardN rfl rfl rfl ?_
        refine J.quiet (Y.pickT rfl rfl) rfl ?_
        refine J.done ?_
        refine J.thenN ?_
        exact J.meetI (true) (()) h (by repeat (first | exact SubF.nil | refine SubF.cons rfl ?_)) (SubM.cons 0 rfl (SubM.nil)) (LentAll.refl _ _)
      · replace h := ifN hp8 h
        refine J.guardY rfl (Y.move rfl) rfl ?_
        refine J.guardY rfl (Y.lss rfl rfl) rfl ?_
        refine J.quiet (Y.pickF rfl rfl) rfl ?_
        refine J.quiet (Y.move rfl) rfl ?_
        refine J.guardD (by exact rfl) (by exact rfl) (fun hp9 => ?_) (fun hp9 => ?_)
        · replace h := ifP hp9 h
          refine J.guardN rfl rfl rfl ?_
          refine J.guardN rfl rfl rfl ?_
          refine J.guardN rfl rfl rfl ?_
          refine J.quiet (Y.pickT rfl rfl) rfl ?_
          refine J.quiet (Y.move rfl) rfl ?_
          refine J.guardN rfl rfl rfl ?_
          refine J.guardN rfl rfl rfl ?_
          refine J.guardN rfl rfl rfl ?_
          refine J.quiet (Y.pickT rfl rfl) rfl ?_
          refine J.done ?_
          refine J.thenN ?_
          exact J.meetI (true) (()) h (by repeat (first | exact SubF.nil | refine SubF.cons rfl ?_)) (SubM.cons 0 rfl (SubM.nil)) (LentAll.refl _ _)
        · replace h := ifN hp9 h
          refine J.guardY rfl (Y.move rfl) rfl ?_
          refine J.guardY rfl (Y.move rfl) rfl ?_
          refine J.guardY rfl (Y.geq rfl rfl) rfl ?_
          refine J.quiet (Y.pickF rfl rfl) rfl ?_
          refine J.quiet (Y.move rfl) rfl ?_
          refine J.guardD (by exact rfl) (by exact rfl) (fun hp10 => ?_) (fun hp10 => ?_)
          · replace h := ifP hp10 h
            refine J.guardN rfl rfl rfl ?_
            refine J.guardN rfl rfl rfl ?_
            refine J.guardN rfl rfl rfl ?_
            refine J.quiet (Y.pickT rfl rfl) rfl ?_
            refine J.done ?_
            refine J.thenN ?_
            exact J.meetI (true) (()) h (by repeat (first | exact SubF.nil | refine SubF.cons rfl ?_)) (SubM.cons 0 rfl (SubM.nil)) (LentAll.refl _ _)
          · replace h := ifN hp10 h
            refine J.guardY rfl (Y.move rfl) rfl ?_
            refine J.guardY rfl (Y.move rfl) rfl ?_
            refine J.guardY rfl (Y.eql rfl rfl) rfl ?_
            refine J.quiet (Y.pickF rfl rfl) rfl ?_
            refine J.done ?_
            refine J.thenN ?_
            exact J.meetI (decide (p1 = p2)) (()) h (by repeat (first | exact SubF.nil | refine SubF.cons rfl ?_)) (SubM.cons 0 rfl (SubM.nil)) (LentAll.refl _ _)
  · clear h
    intro a4 b5 h
    unfold family_ends_k1 at h
    refine J.cond (by exact rfl) (fun hp6 => ?_) (fun hp6 => ?_)
    · replace h := ifP hp6 h
      refine J.seq ?_
      refine J.region ?_
      refine J.quiet (Y.bld0 (r := Value.agg #[Value.int .i64 (0 : Int), Value.int .i64 (0 : Int), Value.int .i64 (0 : Int), Value.int .i64 (0 : Int)]) (by intro w; simp [Instr.build, Instr.fill, cells_intV, cells_boolV, cells_sliceV, cells_ptrV, cells_strV, cells_funcV, cells_agg])) rfl ?_
      refine J.storeAll 0 (vs := [Value.int .i64 (0 : Int), Value.int .i64 (0 : Int), Value.int .i64 (0 : Int), Value.int .i64 (0 : Int)]) rfl rfl rfl rfl rfl rfl ?_
      refine J.quiet (Y.assign rfl) rfl ?_
      refine J.done ?_
      refine J.thenN ?_
      refine J.ret ?_
      refine J.thenR ?_
      obtain rfl := Option.some.inj h
      exact J.retG2 (()) rfl rfl (RV.cell 0 rfl rfl rfl rfl) (RV.tmp rfl) (SubM.nil) LentAll.nil
    · replace h := ifBN hp6 h
      refine J.skip ?_
      refine J.thenN ?_
      refine J.seq ?_
      refine J.region ?_
      refine J.quiet (Y.move rfl) rfl ?_
      refine J.quiet (Y.move rfl) rfl ?_
      refine J.quiet (Y.bld2 (r := Value.agg #[Value.int .i64 (p1), Value.int .i64 (p2)]) rfl rfl (by intro w; simp [Instr.build, Instr.fill, cells_intV, cells_boolV, cells_sliceV, cells_ptrV, cells_strV, cells_funcV, cells_agg])) rfl ?_
      refine J.quiet (Y.move rfl) rfl ?_
      refine J.quiet (Y.move rfl) rfl ?_
      refine J.quiet (Y.bld2 (r := Value.agg #[Value.int .i64 (p2), Value.int .i64 (p1)]) rfl rfl (by intro w; simp [Instr.build, Instr.fill, cells_intV, cells_boolV, cells_sliceV, cells_ptrV, cells_strV, cells_funcV, cells_agg])) rfl ?_
      refine J.quiet (Y.bld2 (r := Value.agg #[Value.int .i64 (p1), Value.int .i64 (p2), Value.int .i64 (p2), Value.int .i64 (p1)]) rfl rfl (by intro w; simp [Instr.build, Instr.fill, cells_intV, cells_boolV, cells_sliceV, cells_ptrV, cells_strV, cells_funcV, cells_agg])) rfl ?_
      refine J.storeAll 0 (vs := [Value.int .i64 (p1), Value.int .i64 (p2), Value.int .i64 (p2), Value.int .i64 (p1)]) rfl rfl rfl rfl rfl rfl ?_
      refine J.quiet (Y.assign rfl) rfl ?_
      refine J.done ?_
      refine J.thenN ?_
      refine J.ret ?_
      obtain rfl := Option.some.inj h
      exact J.retG2 (()) rfl rfl (RV.cell 0 rfl rfl rfl rfl) (RV.tmp rfl) (SubM.nil) LentAll.nil

end Go.Proofs.Ytemhmmcakmidkaa
end
section
set_option linter.unusedVariables false
set_option linter.unusedSimpArgs false
namespace Go.Proofs.Ytemhmmcakmidkaa
open Go.Sx
set_option linter.unusedVariables false
set_option linter.unusedSimpArgs false
def m_slices_Delete (fuel : Nat) (p0 : List (Int × Int)) (p1 : Int) (p2 : Int) : Option ((List (Int × Int))) :=
  ck (0 ≤ p1 ∧ p1 ≤ p2 ∧ p2 ≤ (List.length p0 : Int) ∧ (List.length p0 : Int) ≤ (List.length p0 : Int)) (if p1 = p2 then (some (p0)) else (ck (0 ≤ (0 : Int) ∧ (0 : Int) ≤ p1 ∧ p1 ≤ (List.length p0 : Int)) (ck (0 ≤ p2 ∧ p2 ≤ ((List.length p0 : Int)) ∧ ((List.length p0 : Int)) ≤ (List.length p0 : Int)) (ck (0 ≤ p1 ∧ p1 < p2 ∧ p2 ≤ (List.length p0 : Int)) (some ((List.take (Int.toNat p1) p0) ++ (List.drop (Int.toNat p2) p0)))))))

theorem body95 : HasBody Try.prog 95 := Try.call95

set_option maxHeartbeats 4000000 in
set_option maxRecDepth 20000 in
theorem t_slices_Delete (fuel : Nat) {p0 : List (Int × Int)} {p1 : Int} {p2 : Int} (v0 : Value) (r : (List (Int × Int))) (h : m_slices_Delete fuel p0 p1 p2 = some r) :
    MeetsM Try.prog 95 #[v0, Value.int .i64 (p1), Value.int .i64 (p2)] [Ar EI64I64p v0 p0] [] (fun x : Value => x) (fun x l => Ar EI64I64p x r :: l) := by
  refine MeetsM.of (vs := [v0, Value.int .i64 (p1), Value.int .i64 (p2)]) Try.func95 rfl Try.ntmps95 rfl fun c => ?_
  unfold m_slices_Delete at h
  refine J.seq ?_
  refine J.region ?_
  refine J.quiet (Y.assign rfl) rfl ?_
  refine J.done ?_
  refine J.thenN ?_
  refine J.seq ?_
  refine J.region ?_
  refine J.quiet (Y.move rfl) rfl ?_
  refine J.quiet (Y.move rfl) rfl ?_
  refine J.quiet (Y.move rfl) rfl ?_
  refine J.quiet (Y.move rfl) rfl ?_
  refine J.quiet (Y.lenS rfl (Lent.ar (Lent.res 0 rfl) FI64I64p) rfl) rfl ?_
  replace h := ck_some h; obtain ⟨hc1, h⟩ := h
  refine J.quiet (Y.slice3 rfl rfl rfl rfl (Lent.ar (Lent.res 0 rfl) FI64I64p) rfl rfl hc1) rfl ?_
  refine J.done ?_
  refine J.thenN ?_
  refine J.seq ?_
  refine J.seq ?_
  refine J.region ?_
  refine J.quiet (Y.move rfl) rfl ?_
  refine J.quiet (Y.move rfl) rfl ?_
  refine J.quiet (Y.eql rfl rfl) rfl ?_
  refine J.done ?_
  refine J.thenN ?_
  refine J.condD (by exact rfl) (fun hp2 => ?_) (fun hp2 => ?_)
  · replace h := ifP hp2 h
    refine J.seq ?_
    refine J.region ?_
    refine J.quiet (Y.move rfl) rfl ?_
    refine J.quiet (Y.assign rfl) rfl ?_
    refine J.done ?_
    refine J.thenN ?_
    refine J.ret ?_
    refine J.thenR ?_
    obtain rfl := Option.some.inj h
    exact J.retG1 (v0) rfl rfl (RV.tmp rfl) (SubM.refl _) LentAll.nil
  · replace h := ifN hp2 h
    refine J.skip ?_
    refine J.thenN ?_
    refine J.seq ?_
    refine J.region ?_
    refine J.quiet (Y.move rfl) rfl ?_
    refine J.quiet (Y.lenS rfl (Lent.ar (Lent.res 0 rfl) FI64I64p) rfl) rfl ?_
    refine J.quiet (Y.assign rfl) rfl ?_
    refine J.done ?_
    refine J.thenN ?_
    refine J.seq ?_
    refine JR.start [0, 0, 3, 0, 0, 24, 63, 127] 6 mixedOrders (by decide +kernel) ?_
    refine JR.open (by exact rfl) ?_
    refine JR.qt rfl (SubM.nil) (SubL.nil) (Y.move rfl) HistOk.z ?_
    refine JR.qt rfl (SubM.nil) (SubL.nil) (Y.move rfl) HistOk.z ?_
    replace h := ck_some h; obtain ⟨hc3, h⟩ := h
    refine JR.qt rfl (SubM.refl _) (SubL.nil) (Y.sliceH rfl rfl (Lent.ar (Lent.res 0 rfl) FI64I64p) rfl rfl hc3) HistOk.z ?_
    refine JR.qt rfl (SubM.nil) (SubL.nil) (Y.move rfl) HistOk.z ?_
    refine JR.qt rfl (SubM.nil) (SubL.nil) (Y.move rfl) HistOk.z ?_
    replace h := ck_some h; obtain ⟨hc4, h⟩ := h
    refine JR.qt rfl (SubM.refl _) (SubL.nil) (Y.sliceL rfl rfl (Lent.ar (Lent.res 0 rfl) FI64I64p) rfl rfl hc4) HistOk.z ?_
    refine JR.tailD 6 rfl rfl ?_
    replace h := ck_some h; obtain ⟨hc5, h⟩ := h
    refine J.know (Know.cap 0 rfl) fun hcap6 => ?_
    refine J.loud (Loud.appendIn (i := p1) (j := p2) 0 FI64I64p rfl rfl rfl rfl rfl rfl hc5) rfl fun x7 => ?_
    refine J.quiet (Y.assign rfl) rfl ?_
    refine J.done ?_
    refine J.thenN ?_
    refine J.seq ?_
    refine J.region ?_
    refine J.quiet (Y.move rfl) rfl ?_
    refine J.quiet (Y.move rfl) rfl ?_
    refine J.quiet (Y.lenS rfl (Lent.ar (Lent.res 0 rfl) FI64I64p) rfl) rfl ?_
    refine J.quiet (Y.move rfl) rfl ?_
    refine J.quiet (Y.sliceTail 0 rfl rfl rfl rfl rfl rfl (capGe.slq hcap6) (by have q := hc5; simp; omega)) rfl ?_
    refine J.clearTail 0 rfl rfl (Int.toNat_natCast _) (capGe.slq hcap6) (by have q := hc5; simp; omega) rfl rfl rfl rfl rfl ?_
    refine J.done ?_
    refine J.thenN ?_
    refine J.seq ?_
    refine J.region ?_
    refine J.quiet (Y.move rfl) rfl ?_
    refine J.quiet (Y.assign rfl) rfl ?_
    refine J.done ?_
    refine J.thenN ?_
    refine J.ret ?_
    obtain rfl := Option.some.inj h
    exact J.retG1 (slq v0 0 (Int.toNat (p1 + ((List.length p0 : Int) - p2))) 2) rfl rfl (RV.tmp rfl) (SubM.refl _) LentAll.nil

end Go.Proofs.Ytemhmmcakmidkaa
end
section
set_option linter.unusedVariables false
set_option linter.unusedSimpArgs false
namespace Go.Proofs.Ytemhmmcakmidkaa
open Go.Sx
set_option linter.unusedVariables false
set_option linter.unusedSimpArgs false
def family_Cut_k3 (a21 : (List (List (Int × Int))) × List (Int)) (a25 : (List (List (Int × Int)))) : Option ((List (Int) × (List (List (Int × Int)))) × Int) :=
  some (((a21.2, a25)), (0 : Int))
def family_Cut_s1 (fuel : Nat) (p0 : List (Int) × (List (List (Int × Int)))) (r7 : ((Int × Int) × (Int × Int)) × Bool) (a21 : (List (List (Int × Int))) × List (Int)) (a33 : Int × (List (List (Int × Int)))) (ag32 : (Int × (List (List (Int × Int)))) → Option ((List (Int) × (List (List (Int × Int)))) × Int)) : Option ((List (Int) × (List (List (Int × Int)))) × Int) :=
  if a33.1 < (2 : Int) then (ck (0 ≤ a33.1 ∧ a33.1 < ((2 : Nat) : Int)) (Option.bind (m_graph_PortTo fuel ((p0.1, p0.2)) (at' [r7.1.1.1, r7.1.2.1] ((Int.toNat a33.1 : Nat) : Int)) (at' [r7.1.1.2, r7.1.2.2] ((Int.toNat a33.1 : Nat) : Int))) fun r40 => (ck (0 ≤ (at' [r7.1.1.1, r7.1.2.1] ((Int.toNat a33.1 : Nat) : Int)) ∧ (at' [r7.1.1.1, r7.1.2.1] ((Int.toNat a33.1 : Nat) : Int)) < (List.length a33.2 : Int)) (Option.bind (m_slices_Delete fuel (at' a33.2 (at' [r7.1.1.1, r7.1.2.1] ((Int.toNat a33.1 : Nat) : Int))) r40 (wI .i64 (r40 + (1 : Int)))) fun r45 => (ck (0 ≤ (at' [r7.1.1.1, r7.1.2.1] ((Int.toNat a33.1 : Nat) : Int)) ∧ (at' [r7.1.1.1, r7.1.2.1] ((Int.toNat a33.1 : Nat) : Int)) < (List.length (List.set a33.2 (Int.toNat (at' [r7.1.1.1, r7.1.2.1] ((Int.toNat a33.1 : Nat) : Int))) []) : Int)) (ag32 ((wI .i64 (a33.1 + (1 : Int))), (List.set a33.2 (Int.toNat (at' [r7.1.1.1, r7.1.2.1] ((Int.toNat a33.1 : Nat) : Int))) r45)))))))) else (family_Cut_k3 a21 (a33.2))
def family_Cut_k2 (fuel : Nat) (p0 : List (Int) × (List (List (Int × Int)))) (r7 : ((Int × Int) × (Int × Int)) × Bool) (a21 : (List (List (Int × Int))) × List (Int)) : Option ((List (Int) × (List (List (Int × Int)))) × Int) :=
  iter (family_Cut_s1 fuel p0 r7 a21) fuel ((0 : Int), a21.1)
def family_Cut_k1 (fuel : Nat) (p0 : List (Int) × (List (List (Int × Int)))) (r7 : ((Int × Int) × (Int × Int)) × Bool) (a12 : Bool) : Option ((List (Int) × (List (List (Int × Int)))) × Int) :=
  if a12 = true then (some (((([] : List Int), ([] : List (List (Int × Int))))), (2 : Int))) else (Option.bind (m_slices_Clone fuel p0.1) fun r51 => (Option.bind (m_family_copied fuel p0.2) fun r54 => (family_Cut_k2 fuel p0 r7 (r54, r51))))
def m_family_Cut (fuel : Nat) (p0 : List (Int) × (List (List (Int × Int)))) (p1 : Int) (p2 : Int) : Option ((List (Int) × (List (List (Int × Int)))) × Int) :=
  Option.bind (m_graph_Valid fuel ((p0.1, p0.2))) fun r3 => (if (!r3) = true then (some (((([] : List Int), ([] : List (List (Int × Int))))), (1 : Int))) else (Option.bind (m_family_ends fuel ((p0.1, p0.2)) p1 p2) fun r7 => (if (!r7.2) = true then (family_Cut_k1 fuel p0 r7 (true)) else (Option.bind (m_graph_PortTo fuel ((p0.1, p0.2)) p1 p2) fun r84 => (family_Cut_k1 fuel p0 r7 (decide (r84 < (0 : Int))))))))

theorem body59 : HasBody Try.prog 59 := Try.call59

set_option maxHeartbeats 4000000 in
set_option maxRecDepth 20000 in
theorem t_family_Cut (fuel : Nat) {p0 : List (Int) × (List (List (Int × Int)))} {p1 : Int} {p2 : Int} (v0 : Value)  (v1 : Value)  (z2 : List (Value × List (Int × Int))) (r : (List (Int) × (List (List (Int × Int)))) × Int) (h : m_family_Cut fuel p0 p1 p2 = some r) :
    Meets Try.prog 59 #[Value.agg #[v0, v1], Value.int .i64 (p1), Value.int .i64 (p2)] [Sl RI64 v0 p0.1, S2 RI64I64p v1 z2 p0.2] (fun x : Value × Value × List Value => Value.tuple #[Value.agg #[x.1, x.2.1], Value.int .i64 (r.2)]) (fun x l => Ar EI64 x.1 r.1.1 :: Ar Enc.raw x.2.1 x.2.2 :: Rws EI64I64p x.2.2 r.1.2 :: l) (fun _ l => l) := by
  refine Meets.of (vs := [Value.agg #[v0, v1], Value.int .i64 (p1), Value.int .i64 (p2)]) Try.func59 rfl Try.ntmps59 rfl fun c => ?_
  unfold m_family_Cut at h
  refine J.seq ?_
  refine J.region ?_
  refine J.loud (Loud.box (cs := [v0, v1]) rfl rfl) rfl fun b1 => ?_
  refine J.loud (Loud.alloc (cs := [Value.slice none 0 0, Value.slice none 0 0]) rfl rfl) rfl fun b2 => ?_
  refine J.quiet (Y.assign rfl) rfl ?_
  refine J.done ?_
  refine J.thenN ?_
  refine J.seq ?_
  refine J.seq ?_
  refine J.region ?_
  refine J.quiet (Y.loadBAll 1 rfl rfl rfl rfl) rfl ?_
  replace h := bnd h; obtain ⟨r3, hr4, h⟩ := h
  refine J.loud (Loud.callL body64 (t_graph_Valid fuel v0 v1 z2 r3 hr4) rfl (LentAll.cons (Lent.fact 0 rfl) (LentAll.cons (Lent.fact 1 rfl) (LentAll.nil))) (fun _ _ => rfl)) rfl fun x5 => ?_
  refine J.quiet (Y.not rfl) rfl ?_
  refine J.done ?_
  refine J.thenN ?_
  refine J.cond (by exact rfl) (fun hp6 => ?_) (fun hp6 => ?_)
  · replace h := ifP hp6 h
    refine J.seq ?_
    refine J.region ?_
    refine J.quiet (Y.bld0 (r := Value.agg #[Value.slice none 0 0, Value.slice none 0 0]) (by intro w; simp [Instr.build, Instr.fill, cells_intV, cells_boolV, cells_sliceV, cells_ptrV, cells_strV, cells_funcV, cells_agg])) rfl ?_
    refine J.storeAll 0 (vs := [Value.slice none 0 0, Value.slice none 0 0]) rfl rfl rfl rfl rfl rfl ?_
    refine J.quiet (Y.assign rfl) rfl ?_
    refine J.done ?_
    refine J.thenN ?_
    refine J.ret ?_
    refine J.thenR ?_
    refine J.stp (Stp.nilAr EI64) ?_
    refine J.stp (Stp.nilAr Enc.raw) (J.stp (Stp.rowsNil EI64I64p) ?_)
    obtain rfl := Option.some.inj h
    exact J.retG2 ((Value.slice none 0 0), (Value.slice none 0 0), ([] : List Value)) rfl rfl (RV.cell 3 rfl rfl rfl rfl) (RV.tmp rfl) (SubM.cons 2 rfl (SubM.cons 1 rfl (SubM.cons 0 rfl (SubM.nil)))) LentAll.nil
  · replace h := ifBN hp6 h
    refine J.skip ?_
    refine J.thenN ?_
    refine J.seq ?_
    refine J.region ?_
    refine J.quiet (Y.loadBAll 1 rfl rfl rfl rfl) rfl ?_
    refine J.quiet (Y.move rfl) rfl ?_
    refine J.quiet (Y.move rfl) rfl ?_
    replace h := bnd h; obtain ⟨r7, hr8, h⟩ := h
    refine J.loud (Loud.callL body94 (t_family_ends fuel v0 v1 z2 r7 hr8) rfl (LentAll.cons (Lent.fact 0 rfl) (LentAll.cons (Lent.fact 1 rfl) (LentAll.nil))) (fun _ _ => rfl)) rfl fun x9 => ?_
    refine J.quiet (Y.move rfl) rfl ?_
    refine J.quiet (Y.extract rfl rfl) rfl ?_
    refine J.quiet (Y.extract rfl rfl) rfl ?_
    refine J.loud (Loud.alloc (cs := [Value.int .i64 (0 : Int), Value.int .i64 (0 : Int), Value.int .i64 (0 : Int), Value.int .i64 (0 : Int)]) rfl rfl) rfl fun b10 => ?_
    refine J.storeAll 0 (vs := [Value.int .i64 (r7.1.1.1), Value.int .i64 (r7.1.1.2), Value.int .i64 (r7.1.2.1), Value.int .i64 (r7.1.2.2)]) rfl rfl rfl rfl rfl rfl ?_
    refine J.quiet (Y.assign rfl) rfl ?_
    refine J.done ?_
    refine J.thenN ?_
    refine J.seq ?_
    refine J.seq ?_
    refine J.midI (A := Bool) (B := Unit) (fun a12 => family_Cut_k1 fuel p0 r7 a12 = some r) (fun a12 b13 => [(3, Value.pointer (some ⟨b1, 0, none⟩)), (6, Value.pointer (some ⟨b2, 0, none⟩)), (8, Value.pointer (some ⟨b10, 0, none⟩)), (33, Value.bool (a12))]) (fun a12 b13 => [Blk b10 [Value.int .i64 (r7.1.1.1), Value.int .i64 (r7.1.1.2), Value.int .i64 (r7.1.2.1), Value.int .i64 (r7.1.2.2)] 76, Blk b2 [Value.slice none 0 0, Value.slice none 0 0] 26, Blk b1 [v0, v1] 26]) (fun a12 b13 => [Sl RI64 v0 p0.1, S2 RI64I64p v1 z2 p0.2]) ?_ ?_
    · refine J.region ?_
      refine J.quiet (Y.move rfl) rfl ?_
      refine J.quiet (Y.not rfl) rfl ?_
      refine J.quiet (Y.move rfl) rfl ?_
      refine J.guard (by exact rfl) (by exact rfl) (fun hp83 => ?_) (fun hp83 => ?_)
      · replace h := ifP hp83 h
        refine J.guardN rfl rfl rfl ?_
        refine J.guardN rfl rfl rfl ?_
        refine J.guardN rfl rfl rfl ?_
        refine J.guardN rfl rfl rfl ?_
        refine J.guardN rfl rfl rfl ?_
        refine J.quiet (Y.pickT rfl rfl) rfl ?_
        refine J.done ?_
        refine J.thenN ?_
        exact J.meetI (true) (()) h (by repeat (first | exact SubF.nil | refine SubF.cons rfl ?_)) (SubM.refl _) (LentAll.refl _ _)
      · replace h := ifBN hp83 h
        refine J.guardY rfl (Y.loadBAll 2 rfl rfl rfl rfl) rfl ?_
        refine J.guardY rfl (Y.move rfl) rfl ?_
        refine J.guardY rfl (Y.move rfl) rfl ?_
        replace h := bnd h; obtain ⟨r84, hr85, h⟩ := h
        refine J.loudG rfl (Loud.callL body83 (t_graph_PortTo fuel v0 v1 z2 r84 hr85) rfl (LentAll.cons (Lent.fact 0 rfl) (LentAll.cons (Lent.fact 1 rfl) (LentAll.nil))) (fun _ _ => rfl)) rfl fun x86 => ?_
        refine J.guardY rfl (Y.lss rfl rfl) rfl ?_
        refine J.quiet (Y.pickF rfl rfl) rfl ?_
        refine J.done ?_
        refine J.thenN ?_
        exact J.meetI (decide (r84 < (0 : Int))) (()) h (by repeat (first | exact SubF.nil | refine SubF.cons rfl ?_)) (SubM.refl _) (LentAll.refl _ _)
    · clear h
      intro a12 b13 h
      unfold family_Cut_k1 at h
      refine J.cond (by exact rfl) (fun hp14 => ?_) (fun hp14 => ?_)
      · replace h := ifP hp14 h
        refine J.seq ?_
        refine J.region ?_
        refine J.quiet (Y.bld0 (r := Value.agg #[Value.slice none 0 0, Value.slice none 0 0]) (by intro w; simp [Instr.build, Instr.fill, cells_intV, cells_boolV, cells_sliceV, cells_ptrV, cells_strV, cells_funcV, cells_agg])) rfl ?_
        refine J.storeAll 1 (vs := [Value.slice none 0 0, Value.slice none 0 0]) rfl rfl rfl rfl rfl rfl ?_
        refine J.quiet (Y.assign rfl) rfl ?_
        refine J.done ?_
        refine J.thenN ?_
        refine J.ret ?_
        refine J.thenR ?_
        refine J.stp (Stp.nilAr EI64) ?_
        refine J.stp (Stp.nilAr Enc.raw) (J.stp (Stp.rowsNil EI64I64p) ?_)
        obtain rfl := Option.some.inj h
        exact J.retG2 ((Value.slice none 0 0), (Value.slice none 0 0), ([] : List Value)) rfl rfl (RV.cell 4 rfl rfl rfl rfl) (RV.tmp rfl) (SubM.cons 2 rfl (SubM.cons 1 rfl (SubM.cons 0 rfl (SubM.nil)))) LentAll.nil
      · replace h := ifBN hp14 h
        refine J.skip ?_
        refine J.thenN ?_
        refine J.seq ?_
        refine J.midI (A := (List (List (Int × Int))) × List (Int)) (B := Nat × Value × Value × List Value) (fun a21 => family_Cut_k2 fuel p0 r7 a21 = some r) (fun a21 b22 => [(3, Value.pointer (some ⟨b1, 0, none⟩)), (6, Value.pointer (some ⟨b2, 0, none⟩)), (8, Value.pointer (some ⟨b10, 0, none⟩)), (10, Value.pointer (some ⟨b22.1, 0, none⟩))]) (fun a21 b22 => [Blk b22.1 [b22.2.1, b22.2.2.1] 26, Ar Enc.raw b22.2.2.1 b22.2.2.2, Rws EI64I64p b22.2.2.2 a21.1, Ar EI64 b22.2.1 a21.2, Blk b10 [Value.int .i64 (r7.1.1.1), Value.int .i64 (r7.1.1.2), Value.int .i64 (r7.1.2.1), Value.int .i64 (r7.1.2.2)] 76, Blk b2 [Value.slice none 0 0, Value.slice none 0 0] 26, Blk b1 [v0, v1] 26]) (fun a21 b22 => [Sl RI64 v0 p0.1, S2 RI64I64p v1 z2 p0.2]) ?_ ?_
        · replace h := bnd h; obtain ⟨r51, hr52, h⟩ := h
          replace h := bnd h; obtain ⟨r54, hr55, h⟩ := h
          refine JR.orders [0, 1, 3, 0, 8, 31, 63, 0, 255] 8 [[0, 1, 3, 4, 2, 5, 6, 7, 8], [0, 1, 3, 4, 2, 7, 5, 6, 8], [0, 1, 3, 4, 7, 2, 5, 6, 8]] mixedOrders (by decide +kernel) (by decide +kernel) ?_
          intro o ho
          simp only [List.mem_cons, List.not_mem_nil, or_false] at ho
          rcases ho with rfl | rfl | rfl
          · refine JR.qt rfl (SubM.nil) (SubL.nil) (Y.fieldB rfl rfl rfl rfl rfl) HistOk.z ?_
            refine JR.qt rfl (SubM.cons 2 rfl (SubM.nil)) (SubL.nil) (Y.loadB 0 rfl rfl rfl rfl rfl) HistOk.z ?_
            refine JR.qt rfl (SubM.nil) (SubL.nil) (Y.fieldB rfl rfl rfl rfl rfl) HistOk.z ?_
            refine JR.qt rfl (SubM.cons 2 rfl (SubM.nil)) (SubL.nil) (Y.loadB 0 rfl rfl rfl rfl rfl) HistOk.z ?_
            refine JR.loud rfl rfl rfl (Loud.callL body88 (t_slices_Clone fuel v0 r51 hr52) rfl (LentAll.cons (Lent.fact 0 rfl) (LentAll.nil)) (fun _ _ => rfl)) rfl (fun x62 => (BsOk.h (SubM.cons 3 rfl (SubM.nil)) (SubL.nil) (BsOk.h (SubM.nil) (SubL.nil) (BsOk.b rfl (BsOk.b rfl BsOk.z))))) fun x62 => ?_
            refine JR.loud rfl rfl rfl (Loud.callL body89 (t_family_copied fuel v1 z2 r54 hr55) rfl (LentAll.cons (Lent.fact 1 rfl) (LentAll.nil)) (fun _ _ => rfl)) rfl (fun x63 => (BsOk.b rfl (BsOk.b rfl (BsOk.b rfl (BsOk.b rfl BsOk.z))))) fun x63 => ?_
            refine JR.know (Know.one ((Lent.ar (Lent.res 2 rfl) FI64))) fun ho64 => ?_
            refine JR.know (Know.one (Lent.sl (Lent.rows (i := 0) (j := 1) rfl rfl FI64I64p))) fun ho65 => ?_
            refine JR.qt rfl (SubM.nil) (SubL.nil) (Y.bld2 (r := Value.agg #[x62, x63.1]) rfl rfl (by intro w; simp [Instr.build, Instr.fill, cells_intV, cells_boolV, cells_sliceV, cells_ptrV, cells_strV, cells_funcV, cells_agg, one_cells ho64, one_cells ho65])) (HistOk.b rfl (HistOk.b rfl HistOk.z)) ?_
            refine JR.loud rfl rfl rfl (Loud.alloc (cs := [Value.slice none 0 0, Value.slice none 0 0]) rfl rfl) rfl (fun b66 => (BsOk.h (SubM.nil) (SubL.nil) (BsOk.h (SubM.cons 6 rfl (SubM.nil)) (SubL.nil) (BsOk.h (SubM.nil) (SubL.nil) (BsOk.h (SubM.cons 6 rfl (SubM.nil)) (SubL.nil) (BsOk.h (SubM.nil) (SubL.nil) BsOk.z)))))) fun b66 => ?_
            refine JR.tailD 8 rfl rfl ?_
            refine J.know (Know.one ((Lent.ar (Lent.res 3 rfl) FI64))) fun ho67 => ?_
            refine J.know (Know.one (Lent.sl (Lent.rows (i := 1) (j := 2) rfl rfl FI64I64p))) fun ho68 => ?_
            refine J.storeAll 0 (vs := [x62, x63.1]) rfl rfl (all1 ho67 (all1 ho68 rfl)) rfl rfl rfl ?_
            refine J.done ?_
            refine J.thenN ?_
            exact J.meetI (r54, r51) (b66, x62, x63.1, x63.2) h (by repeat (first | exact SubF.nil | refine SubF.cons rfl ?_)) (SubM.refl _) (LentAll.refl _ _)
          · refine JR.qt rfl (SubM.nil) (SubL.nil) (Y.fieldB rfl rfl rfl rfl rfl) HistOk.z ?_
            refine JR.qt rfl (SubM.cons 2 rfl (SubM.nil)) (SubL.nil) (Y.loadB 0 rfl rfl rfl rfl rfl) HistOk.z ?_
            refine JR.qt rfl (SubM.nil) (SubL.nil) (Y.fieldB rfl rfl rfl rfl rfl) HistOk.z ?_
            refine JR.qt rfl (SubM.cons 2 rfl (SubM.nil)) (SubL.nil) (Y.loadB 0 rfl rfl rfl rfl rfl) HistOk.z ?_
            refine JR.loud rfl rfl rfl (Loud.callL body88 (t_slices_Clone fuel v0 r51 hr52) rfl (LentAll.cons (Lent.fact 0 rfl) (LentAll.nil)) (fun _ _ => rfl)) rfl (fun x69 => (BsOk.h (SubM.cons 3 rfl (SubM.nil)) (SubL.nil) (BsOk.h (SubM.nil) (SubL.nil) (BsOk.b rfl (BsOk.b rfl BsOk.z))))) fun x69 => ?_
            refine JR.loud rfl rfl rfl (Loud.alloc (cs := [Value.slice none 0 0, Value.slice none 0 0]) rfl rfl) rfl (fun b70 => (BsOk.h (SubM.cons 4 rfl (SubM.nil)) (SubL.nil) (BsOk.h (SubM.nil) (SubL.nil) (BsOk.h (SubM.cons 4 rfl (SubM.nil)) (SubL.nil) (BsOk.h (SubM.nil) (SubL.nil) BsOk.z))))) fun b70 => ?_
            refine JR.loud rfl rfl rfl (Loud.callL body89 (t_family_copied fuel v1 z2 r54 hr55) rfl (LentAll.cons (Lent.fact 1 rfl) (LentAll.nil)) (fun _ _ => rfl)) rfl (fun x71 => (BsOk.b rfl (BsOk.b rfl (BsOk.b rfl (BsOk.b rfl BsOk.z))))) fun x71 => ?_
            refine JR.know (Know.one ((Lent.ar (Lent.res 3 rfl) FI64))) fun ho72 => ?_
            refine JR.know (Know.one (Lent.sl (Lent.rows (i := 0) (j := 1) rfl rfl FI64I64p))) fun ho73 => ?_
            refine JR.qt rfl (SubM.nil) (SubL.nil) (Y.bld2 (r := Value.agg #[x69, x71.1]) rfl rfl (by intro w; simp [Instr.build, Instr.fill, cells_intV, cells_boolV, cells_sliceV, cells_ptrV, cells_strV, cells_funcV, cells_agg, one_cells ho72, one_cells ho73])) (HistOk.b rfl (HistOk.h (SubM.nil) (SubL.nil) (HistOk.b rfl HistOk.z))) ?_
            refine JR.tailD 8 rfl rfl ?_
            refine J.know (Know.one ((Lent.ar (Lent.res 3 rfl) FI64))) fun ho74 => ?_
            refine J.know (Know.one (Lent.sl (Lent.rows (i := 0) (j := 1) rfl rfl FI64I64p))) fun ho75 => ?_
            refine J.storeAll 2 (vs := [x69, x71.1]) rfl rfl (all1 ho74 (all1 ho75 rfl)) rfl rfl rfl ?_
            refine J.done ?_
            refine J.thenN ?_
            exact J.meetI (r54, r51) (b70, x69, x71.1, x71.2) h (by repeat (first | exact SubF.nil | refine SubF.cons rfl ?_)) (SubM.cons 2 rfl (SubM.cons 0 rfl (SubM.cons 0 rfl (SubM.cons 0 rfl (SubM.cons 0 rfl (SubM.cons 0 rfl (SubM.cons 0 rfl (SubM.nil)))))))) (LentAll.refl _ _)
          · refine JR.qt rfl (SubM.nil) (SubL.nil) (Y.fieldB rfl rfl rfl rfl rfl) HistOk.z ?_
            refine JR.qt rfl (SubM.cons 2 rfl (SubM.nil)) (SubL.nil) (Y.loadB 0 rfl rfl rfl rfl rfl) HistOk.z ?_
            refine JR.qt rfl (SubM.nil) (SubL.nil) (Y.fieldB rfl rfl rfl rfl rfl) HistOk.z ?_
            refine JR.qt rfl (SubM.cons 2 rfl (SubM.nil)) (SubL.nil) (Y.loadB 0 rfl rfl rfl rfl rfl) HistOk.z ?_
            refine JR.loud rfl rfl rfl (Loud.alloc (cs := [Value.slice none 0 0, Value.slice none 0 0]) rfl rfl) rfl (fun b76 => (BsOk.h (SubM.cons 3 rfl (SubM.nil)) (SubL.nil) (BsOk.h (SubM.nil) (SubL.nil) (BsOk.h (SubM.cons 3 rfl (SubM.nil)) (SubL.nil) (BsOk.h (SubM.nil) (SubL.nil) BsOk.z))))) fun b76 => ?_
            refine JR.loud rfl rfl rfl (Loud.callL body88 (t_slices_Clone fuel v0 r51 hr52) rfl (LentAll.cons (Lent.fact 0 rfl) (LentAll.nil)) (fun _ _ => rfl)) rfl (fun x77 => (BsOk.h (SubM.cons 4 rfl (SubM.nil)) (SubL.nil) (BsOk.h (SubM.nil) (SubL.nil) (BsOk.b rfl (BsOk.b rfl BsOk.z))))) fun x77 => ?_
            refine JR.loud rfl rfl rfl (Loud.callL body89 (t_family_copied fuel v1 z2 r54 hr55) rfl (LentAll.cons (Lent.fact 1 rfl) (LentAll.nil)) (fun _ _ => rfl)) rfl (fun x78 => (BsOk.b rfl (BsOk.b rfl (BsOk.b rfl (BsOk.b rfl BsOk.z))))) fun x78 => ?_
            refine JR.know (Know.one ((Lent.ar (Lent.res 2 rfl) FI64))) fun ho79 => ?_
            refine JR.know (Know.one (Lent.sl (Lent.rows (i := 0) (j := 1) rfl rfl FI64I64p))) fun ho80 => ?_
            refine JR.qt rfl (SubM.nil) (SubL.nil) (Y.bld2 (r := Value.agg #[x77, x78.1]) rfl rfl (by intro w; simp [Instr.build, Instr.fill, cells_intV, cells_boolV, cells_sliceV, cells_ptrV, cells_strV, cells_funcV, cells_agg, one_cells ho79, one_cells ho80])) (HistOk.b rfl (HistOk.b rfl (HistOk.h (SubM.nil) (SubL.nil) HistOk.z))) ?_
            refine JR.tailD 8 rfl rfl ?_
            refine J.know (Know.one ((Lent.ar (Lent.res 2 rfl) FI64))) fun ho81 => ?_
            refine J.know (Know.one (Lent.sl (Lent.rows (i := 0) (j := 1) rfl rfl FI64I64p))) fun ho82 => ?_
            refine J.storeAll 3 (vs := [x77, x78.1]) rfl rfl (all1 ho81 (all1 ho82 rfl)) rfl rfl rfl ?_
            refine J.done ?_
            refine J.thenN ?_
            exact J.meetI (r54, r51) (b76, x77, x78.1, x78.2) h (by repeat (first | exact SubF.nil | refine SubF.cons rfl ?_)) (SubM.cons 3 rfl (SubM.cons 0 rfl (SubM.cons 0 rfl (SubM.cons 0 rfl (SubM.cons 0 rfl (SubM.cons 0 rfl (SubM.cons 0 rfl (SubM.nil)))))))) (LentAll.refl _ _)
        · clear h
          intro a21 b22 h
          unfold family_Cut_k2 at h
          refine J.seq ?_
          refine J.midI (A := (List (List (Int × Int)))) (B := List Value) (fun a25 => family_Cut_k3 a21 a25 = some r) (fun a25 b26 => [(6, Value.pointer (some ⟨b2, 0, none⟩)), (10, Value.pointer (some ⟨b22.1, 0, none⟩))]) (fun a25 b26 => [Blk b22.1 [b22.2.1, b22.2.2.1] 26, Ar Enc.raw b22.2.2.1 b26, Rws EI64I64p b26 a25, Ar EI64 b22.2.1 a21.2, Blk b2 [Value.slice none 0 0, Value.slice none 0 0] 26]) (fun a25 b26 => [Sl RI64 v0 p0.1, S2 RI64I64p v1 z2 p0.2]) ?_ ?_
          · refine J.seq ?_
            refine J.region ?_
            refine J.quiet (Y.loadBAll 4 rfl rfl rfl rfl) rfl ?_
            refine J.quiet (Y.move rfl) rfl ?_
            refine J.done ?_
            refine J.thenN ?_
            refine J.block ?_
            refine J.loopI (A := Int × (List (List (Int × Int)))) (B := List Value) (family_Cut_s1 fuel p0 r7 a21) (fun a33 b34 => [(3, Value.pointer (some ⟨b1, 0, none⟩)), (6, Value.pointer (some ⟨b2, 0, none⟩)), (10, Value.pointer (some ⟨b22.1, 0, none⟩)), (42, Value.agg #[Value.int .i64 (r7.1.1.1), Value.int .i64 (r7.1.1.2), Value.int .i64 (r7.1.2.1), Value.int .i64 (r7.1.2.2)]), (43, Value.int .i64 (a33.1))]) (fun a33 b34 => [Blk b22.1 [b22.2.1, b22.2.2.1] 26, Ar Enc.raw b22.2.2.1 b34, Rws EI64I64p b34 a33.2, Ar EI64 b22.2.1 a21.2, Blk b2 [Value.slice none 0 0, Value.slice none 0 0] 26, Blk b1 [v0, v1] 26]) (fun a33 b34 => [Sl RI64 v0 p0.1, S2 RI64I64p v1 z2 p0.2]) ((0 : Int), a21.1) (b22.2.2.2) h (by repeat (first | exact SubF.nil | refine SubF.cons rfl ?_)) (SubM.cons 0 rfl (SubM.cons 0 rfl (SubM.cons 0 rfl (SubM.cons 0 rfl (SubM.cons 1 rfl (SubM.cons 1 rfl (SubM.nil))))))) (LentAll.refl _ _) ?_
            clear h
            intro k35 a33 b34 h
            unfold family_Cut_s1 at h
            refine J.seq ?_
            refine J.region ?_
            refine J.quiet (Y.lss rfl rfl) rfl ?_
            refine J.done ?_
            refine J.thenN ?_
            refine J.seq ?_
            refine J.condD (by exact rfl) (fun hp36 => ?_) (fun hp36 => ?_)
            · replace h := ifP hp36 h
              refine J.skip ?_
              refine J.thenN ?_
              refine J.seq ?_
              refine J.block ?_
              refine J.seq ?_
              refine J.region ?_
              replace h := ck_some h; obtain ⟨hc37, h⟩ := h
              refine J.quiet (Y.indexV (cs := [Value.int .i64 (r7.1.1.1), Value.int .i64 (r7.1.1.2), Value.int .i64 (r7.1.2.1), Value.int .i64 (r7.1.2.2)]) (fun j38 => Value.agg #[Value.int .i64 (at' [r7.1.1.1, r7.1.2.1] ((j38 : Nat) : Int)), Value.int .i64 (at' [r7.1.1.2, r7.1.2.2] ((j38 : Nat) : Int))]) rfl rfl rfl rfl hc37 (by intro j hj; match j, hj with | 0, _ => rfl | 1, _ => rfl)) rfl ?_
              refine J.loud (Loud.alloc (cs := [Value.int .i64 (0 : Int), Value.int .i64 (0 : Int)]) rfl rfl) rfl fun b39 => ?_
              refine J.storeAll 0 (vs := [Value.int .i64 (at' [r7.1.1.1, r7.1.2.1] ((Int.toNat a33.1 : Nat) : Int)), Value.int .i64 (at' [r7.1.1.2, r7.1.2.2] ((Int.toNat a33.1 : Nat) : Int))]) rfl rfl rfl rfl rfl rfl ?_
              refine J.done ?_
              refine J.thenN ?_
              refine J.seq ?_
              refine J.region ?_
              refine J.quiet (Y.loadBAll 6 rfl rfl rfl rfl) rfl ?_
              refine J.quiet (Y.indexArr (i := 0) rfl rfl rfl rfl rfl (by decide)) rfl ?_
              refine J.quiet (Y.loadB 0 rfl rfl rfl rfl rfl) rfl ?_
              refine J.quiet (Y.indexArr (i := 1) rfl rfl rfl rfl rfl (by decide)) rfl ?_
              refine J.quiet (Y.loadB 0 rfl rfl rfl rfl rfl) rfl ?_
              replace h := bnd h; obtain ⟨r40, hr41, h⟩ := h
              refine J.loud (Loud.callL body83 (t_graph_PortTo fuel v0 v1 z2 r40 hr41) rfl (LentAll.cons (Lent.fact 0 rfl) (LentAll.cons (Lent.fact 1 rfl) (LentAll.nil))) (fun _ _ => rfl)) rfl fun x42 => ?_
              refine J.quiet (Y.assign rfl) rfl ?_
              refine J.done ?_
              refine J.thenN ?_
              refine JR.start [0, 1, 0, 4, 0, 16, 0, 64, 240, 496, 0, 0, 2048, 8176, 16383, 32767] 14 mixedOrders (by decide +kernel) ?_
              refine JR.open (by exact rfl) ?_
              refine JR.qt rfl (SubM.nil) (SubL.nil) (Y.fieldB rfl rfl rfl rfl rfl) HistOk.z ?_
              refine JR.qt rfl (SubM.cons 1 rfl (SubM.nil)) (SubL.nil) (Y.loadB 0 rfl rfl rfl rfl rfl) HistOk.z ?_
              refine JR.qt rfl (SubM.nil) (SubL.nil) (Y.indexArr (i := 0) rfl rfl rfl rfl rfl (by decide)) HistOk.z ?_
              refine JR.qt rfl (SubM.cons 0 rfl (SubM.nil)) (SubL.nil) (Y.loadB 0 rfl rfl rfl rfl rfl) HistOk.z ?_
              refine JR.qt rfl (SubM.nil) (SubL.nil) (Y.fieldB rfl rfl rfl rfl rfl) HistOk.z ?_
              refine JR.qt rfl (SubM.cons 1 rfl (SubM.nil)) (SubL.nil) (Y.loadB 0 rfl rfl rfl rfl rfl) HistOk.z ?_
              refine JR.qt rfl (SubM.nil) (SubL.nil) (Y.indexArr (i := 0) rfl rfl rfl rfl rfl (by decide)) HistOk.z ?_
              refine JR.qt rfl (SubM.cons 0 rfl (SubM.nil)) (SubL.nil) (Y.loadB 0 rfl rfl rfl rfl rfl) HistOk.z ?_
              replace h := ck_some h; obtain ⟨hc43, h⟩ := h
              refine JR.qt rfl (SubM.cons 2 rfl (SubM.cons 2 rfl (SubM.nil))) (SubL.nil) (Y.indexN rfl rfl (Lent.rows (i := 0) (j := 1) rfl rfl FI64I64p) rfl rfl hc43) HistOk.z ?_
              refine JR.know (Know.rws 3 rfl) fun hl44 => ?_
              refine JR.qt rfl (SubM.cons 2 rfl (SubM.nil)) (SubL.nil) (Y.loadRaw 0 rfl rfl hl44 rfl rfl hc43) HistOk.z ?_
              refine JR.qt rfl (SubM.nil) (SubL.nil) (Y.move rfl) HistOk.z ?_
              refine JR.qt rfl (SubM.nil) (SubL.nil) (Y.move rfl) HistOk.z ?_
              refine JR.qt rfl (SubM.nil) (SubL.nil) (Y.addW rfl rfl) HistOk.z ?_
              refine JR.stp (Stp.takeRow 3 rfl hc43) ?_
              replace h := bnd h; obtain ⟨r45, hr46, h⟩ := h
              refine JR.loud rfl rfl rfl (Loud.callM (Min := [Ar EI64I64p (at' b34 (at' [r7.1.1.1, r7.1.2.1] ((Int.toNat a33.1 : Nat) : Int))) (at' a33.2 (at' [r7.1.1.1, r7.1.2.1] ((Int.toNat a33.1 : Nat) : Int)))]) (Mr := [Blk b39 [Value.int .i64 (at' [r7.1.1.1, r7.1.2.1] ((Int.toNat a33.1 : Nat) : Int)), Value.int .i64 (at' [r7.1.1.2, r7.1.2.2] ((Int.toNat a33.1 : Nat) : Int))] 75, Blk b22.1 [b22.2.1, b22.2.2.1] 26, Ar Enc.raw b22.2.2.1 b34, Rws EI64I64p (List.set b34 (Int.toNat (at' [r7.1.1.1, r7.1.2.1] ((Int.toNat a33.1 : Nat) : Int))) (Value.slice none 0 0)) (List.set a33.2 (Int.toNat (at' [r7.1.1.1, r7.1.2.1] ((Int.toNat a33.1 : Nat) : Int))) []), Ar EI64 b22.2.1 a21.2, Blk b2 [Value.slice none 0 0, Value.slice none 0 0] 26, Blk b1 [v0, v1] 26]) body95 (t_slices_Delete fuel (at' b34 (at' [r7.1.1.1, r7.1.2.1] ((Int.toNat a33.1 : Nat) : Int))) r45 hr46) rfl (SubM.refl _) (LentAll.nil) (fun _ _ => rfl)) rfl (fun x47 => (BsOk.b rfl (BsOk.b rfl (BsOk.b rfl (BsOk.b rfl (BsOk.b rfl (BsOk.b rfl (BsOk.b rfl (BsOk.b rfl (BsOk.b rfl (BsOk.h (SubM.cons 1 rfl (SubM.nil)) (SubL.nil) (BsOk.h (SubM.nil) (SubL.nil) (BsOk.h (SubM.cons 2 rfl (SubM.nil)) (SubL.nil) (BsOk.h (SubM.nil) (SubL.nil) BsOk.z)))))))))))))) fun x47 => ?_
              refine JR.tailD 14 rfl rfl ?_
              replace h := ck_some h; obtain ⟨hc48, h⟩ := h
              refine J.know (Know.rws 4 rfl) fun hl49 => ?_
              refine J.quiet (Y.indexA 3 rfl rfl rfl rfl rfl hc48.1 (by have q1 := hc48.2; have q2 := hl49; simp only [List.length_set] at q1 q2; omega)) rfl ?_
              refine J.stp (Stp.backRow (k := (at' [r7.1.1.1, r7.1.2.1] ((Int.toNat a33.1 : Nat) : Int))) 4 0 rfl rfl rfl ⟨hc48.1, by simpa using hc48.2⟩) ?_
              refine J.know (Know.oneRow 3 (k := (at' [r7.1.1.1, r7.1.2.1] ((Int.toNat a33.1 : Nat) : Int))) rfl ⟨hc48.1, by simpa using hc48.2⟩) fun ho50 => ?_
              refine J.storeRow 2 3 ⟨hc48.1, by simpa using hc48.2⟩ rfl rfl rfl rfl rfl (by simp) ho50 rfl ?_
              refine J.done ?_
              refine J.inN ?_
              refine J.thenN ?_
              refine J.region ?_
              refine J.quiet (Y.addW rfl rfl) rfl ?_
              refine J.quiet (Y.move rfl) rfl ?_
              refine J.done ?_
              refine J.thenN ?_
              exact J.againI ((wI .i64 (a33.1 + (1 : Int))), (List.set a33.2 (Int.toNat (at' [r7.1.1.1, r7.1.2.1] ((Int.toNat a33.1 : Nat) : Int))) r45)) (List.set b34 (Int.toNat (at' [r7.1.1.1, r7.1.2.1] ((Int.toNat a33.1 : Nat) : Int))) x47) h (by repeat (first | exact SubF.nil | refine SubF.cons rfl ?_)) (SubM.cons 1 rfl (SubM.cons 1 rfl (SubM.cons 1 rfl (SubM.cons 1 rfl (SubM.cons 1 rfl (SubM.cons 1 rfl (SubM.nil))))))) (LentAll.refl _ _)
            · replace h := ifN hp36 h
              refine J.exit ?_
              refine J.thenX ?_
              refine J.thenX ?_
              refine J.inX ?_
              refine J.thenN ?_
              exact J.meetI (a33.2) (b34) h (by repeat (first | exact SubF.nil | refine SubF.cons rfl ?_)) (SubM.cons 0 rfl (SubM.cons 0 rfl (SubM.cons 0 rfl (SubM.cons 0 rfl (SubM.cons 0 rfl (SubM.nil)))))) (LentAll.refl _ _)
          · clear h
            intro a25 b26 h
            unfold family_Cut_k3 at h
            refine J.seq ?_
            refine J.region ?_
            refine J.quiet (Y.loadBAll 0 rfl rfl rfl rfl) rfl ?_
            refine J.know (Know.one ((Lent.ar (Lent.res 3 rfl) FI64))) fun ho27 => ?_
            refine J.know (Know.one (Lent.sl (Lent.rows (i := 1) (j := 2) rfl rfl FI64I64p))) fun ho28 => ?_
            refine J.storeAll 4 (vs := [b22.2.1, b22.2.2.1]) rfl rfl (all1 ho27 (all1 ho28 rfl)) rfl rfl rfl ?_
            refine J.quiet (Y.assign rfl) rfl ?_
            refine J.done ?_
            refine J.thenN ?_
            refine J.ret ?_
            obtain rfl := Option.some.inj h
            exact J.retG2 (b22.2.1, b22.2.2.1, b26) rfl rfl (RV.cell 4 rfl rfl rfl rfl) (RV.tmp rfl) (SubM.cons 3 rfl (SubM.cons 1 rfl (SubM.cons 1 rfl (SubM.nil)))) LentAll.nil

end Go.Proofs.Ytemhmmcakmidkaa
end
section
set_option linter.unusedVariables false
set_option linter.unusedSimpArgs false
namespace Go.Proofs.Ytemhmmcakmidkaa
open Go.Sx
set_option linter.unusedVariables false
set_option linter.unusedSimpArgs false
def ref03_nodes_k1  (a3 : Bool) : Option (Bool) :=
  some (a3)
def m_ref03_nodes (fuel : Nat) (p0 : List (Int) × (List (List (Int × Int)))) (p1 : Int) (p2 : Int) : Option (Bool) :=
  Option.bind (m_ref01_In fuel p1 (0 : Int) (wI .i64 ((List.length p0.2 : Int) - (1 : Int)))) fun r5 => (if r5 = true then (Option.bind (m_ref01_In fuel p2 (0 : Int) (wI .i64 ((List.length p0.2 : Int) - (1 : Int)))) fun r9 => (if r9 = true then (ref03_nodes_k1  (decide (p1 ≠ p2))) else (ref03_nodes_k1  (false)))) else (ref03_nodes_k1  (false)))

theorem body96 : HasBody Try.prog 96 := Try.call96

set_option maxHeartbeats 4000000 in
set_option maxRecDepth 20000 in
theorem t_ref03_nodes (fuel : Nat) {p0 : List (Int) × (List (List (Int × Int)))} {p1 : Int} {p2 : Int} (v0 : Value)  (v1 : Value)  (z2 : List (Value × List (Int × Int))) (r : Bool) (h : m_ref03_nodes fuel p0 p1 p2 = some r) :
    Meets Try.prog 96 #[Value.agg #[v0, v1], Value.int .i64 (p1), Value.int .i64 (p2)] [Sl RI64 v0 p0.1, S2 RI64I64p v1 z2 p0.2] (fun x : Unit => Value.bool (r)) (fun x l => l) (fun _ l => l) := by
  refine Meets.of (vs := [Value.agg #[v0, v1], Value.int .i64 (p1), Value.int .i64 (p2)]) Try.func96 rfl Try.ntmps96 rfl fun c => ?_
  unfold m_ref03_nodes at h
  refine J.seq ?_
  refine J.region ?_
  refine J.loud (Loud.box (cs := [v0, v1]) rfl rfl) rfl fun b1 => ?_
  refine J.quiet (Y.assign rfl) rfl ?_
  refine J.done ?_
  refine J.thenN ?_
  refine J.seq ?_
  refine J.region ?_
  refine J.quiet (Y.fieldB rfl rfl rfl rfl rfl) rfl ?_
  refine J.quiet (Y.loadB 0 rfl rfl rfl rfl rfl) rfl ?_
  refine J.quiet (Y.lenN rfl (Lent.fact 1 rfl) rfl) rfl ?_
  refine J.quiet (Y.assign rfl) rfl ?_
  refine J.done ?_
  refine J.thenN ?_
  refine J.seq ?_
  refine J.midI (A := Bool) (B := Unit) (fun a3 => ref03_nodes_k1  a3 = some r) (fun a3 b4 => [(6, Value.bool (a3))]) (fun a3 b4 => []) (fun a3 b4 => [Sl RI64 v0 p0.1, S2 RI64I64p v1 z2 p0.2]) ?_ ?_
  · refine J.region ?_
    refine J.quiet (Y.move rfl) rfl ?_
    refine J.quiet (Y.move rfl) rfl ?_
    refine J.quiet (Y.subW rfl rfl) rfl ?_
    replace h := bnd h; obtain ⟨r5, hr6, h⟩ := h
    refine J.loud (Loud.callL body72 (t_ref01_In fuel  r5 hr6) rfl (LentAll.nil) (fun _ _ => rfl)) rfl fun x7 => ?_
    refine J.quiet (Y.move rfl) rfl ?_
    refine J.guard (by exact rfl) (by exact rfl) (fun hp8 => ?_) (fun hp8 => ?_)
    · replace h := ifP hp8 h
      refine J.guardY rfl (Y.move rfl) rfl ?_
      refine J.guardY rfl (Y.move rfl) rfl ?_
      refine J.guardY rfl (Y.subW rfl rfl) rfl ?_
      replace h := bnd h; obtain ⟨r9, hr10, h⟩ := h
      refine J.loudG rfl (Loud.callL body72 (t_ref01_In fuel  r9 hr10) rfl (LentAll.nil) (fun _ _ => rfl)) rfl fun x11 => ?_
      refine J.quiet (Y.pickT rfl rfl) rfl ?_
      refine J.quiet (Y.move rfl) rfl ?_
      refine J.guard (by exact rfl) (by exact rfl) (fun hp12 => ?_) (fun hp12 => ?_)
      · replace h := ifP hp12 h
        refine J.guardY rfl (Y.move rfl) rfl ?_
        refine J.guardY rfl (Y.move rfl) rfl ?_
        refine J.guardY rfl (Y.neq rfl rfl) rfl ?_
        refine J.quiet (Y.pickT rfl rfl) rfl ?_
        refine J.quiet (Y.assign rfl) rfl ?_
        refine J.done ?_
        refine J.thenN ?_
        exact J.meetI (decide (p1 ≠ p2)) (()) h (by repeat (first | exact SubF.nil | refine SubF.cons rfl ?_)) (SubM.nil) (LentAll.refl _ _)
      · replace h := ifBN hp12 h
        refine J.guardN rfl rfl rfl ?_
        refine J.guardN rfl rfl rfl ?_
        refine J.guardN rfl rfl rfl ?_
        refine J.quiet (Y.pickF rfl rfl) rfl ?_
        refine J.quiet (Y.assign rfl) rfl ?_
        refine J.done ?_
        refine J.thenN ?_
        exact J.meetI (false) (()) h (by repeat (first | exact SubF.nil | refine SubF.cons rfl ?_)) (SubM.nil) (LentAll.refl _ _)
    · replace h := ifBN hp8 h
      refine J.guardN rfl rfl rfl ?_
      refine J.guardN rfl rfl rfl ?_
      refine J.guardN rfl rfl rfl ?_
      refine J.guardN rfl rfl rfl ?_
      refine J.quiet (Y.pickF rfl rfl) rfl ?_
      refine J.quiet (Y.move rfl) rfl ?_
      refine J.guardN rfl rfl rfl ?_
      refine J.guardN rfl rfl rfl ?_
      refine J.guardN rfl rfl rfl ?_
      refine J.quiet (Y.pickF rfl rfl) rfl ?_
      refine J.quiet (Y.assign rfl) rfl ?_
      refine J.done ?_
      refine J.thenN ?_
      exact J.meetI (false) (()) h (by repeat (first | exact SubF.nil | refine SubF.cons rfl ?_)) (SubM.nil) (LentAll.refl _ _)
  · clear h
    intro a3 b4 h
    unfold ref03_nodes_k1 at h
    refine J.ret ?_
    obtain rfl := Option.some.inj h
    exact J.retG1 (()) rfl rfl (RV.tmp rfl) (SubM.refl _) LentAll.nil

end Go.Proofs.Ytemhmmcakmidkaa
end
section
set_option linter.unusedVariables false
set_option linter.unusedSimpArgs false
namespace Go.Proofs.Ytemhmmcakmidkaa
open Go.Sx
set_option linter.unusedVariables false
set_option linter.unusedSimpArgs false
def m_ref03_without (fuel : Nat) (p0 : List (Int × Int)) (p1 : Int) : Option ((List (Int × Int))) :=
  ck (0 ≤ (0 : Int) ∧ (0 : Int) ≤ p1 ∧ p1 ≤ (List.length p0 : Int)) (ck ((List.length ([] : List (Int × Int)) : Int) + (List.length (List.drop (Int.toNat 0) (List.take (Int.toNat p1) p0)) : Int) ≤ 1099511627) (ck (0 ≤ (wI .i64 (p1 + (1 : Int))) ∧ (wI .i64 (p1 + (1 : Int))) ≤ ((List.length p0 : Int)) ∧ ((List.length p0 : Int)) ≤ (List.length p0 : Int)) (ck ((List.length (([] : List (Int × Int)) ++ (List.drop (Int.toNat 0) (List.take (Int.toNat p1) p0))) : Int) + (List.length (List.drop (Int.toNat (wI .i64 (p1 + (1 : Int)))) (List.take (Int.toNat ((List.length p0 : Int))) p0)) : Int) ≤ 1099511627) (some ((([] : List (Int × Int)) ++ (List.drop (Int.toNat 0) (List.take (Int.toNat p1) p0))) ++ (List.drop (Int.toNat (wI .i64 (p1 + (1 : Int)))) (List.take (Int.toNat (List.length p0 : Int)) p0)))))))

theorem body97 : HasBody Try.prog 97 := Try.call97

set_option maxHeartbeats 4000000 in
set_option maxRecDepth 20000 in
theorem t_ref03_without (fuel : Nat) {p0 : List (Int × Int)} {p1 : Int} (v0 : Value) (r : (List (Int × Int))) (h : m_ref03_without fuel p0 p1 = some r) :
    Meets Try.prog 97 #[v0, Value.int .i64 (p1)] [Sl RI64I64p v0 p0] (fun x : Value => x) (fun x l => Ar EI64I64p x r :: l) (fun _ l => l) := by
  refine Meets.of (vs := [v0, Value.int .i64 (p1)]) Try.func97 rfl Try.ntmps97 rfl fun c => ?_
  unfold m_ref03_without at h
  refine J.seq ?_
  refine J.region ?_
  refine J.quiet (Y.assign rfl) rfl ?_
  refine J.done ?_
  refine J.thenN ?_
  refine J.seq ?_
  refine JR.start [0, 0, 3, 7, 0, 0, 32, 112, 255, 511] 8 mixedOrders (by decide +kernel) ?_
  refine JR.open (by exact rfl) ?_
  refine JR.qt rfl (SubM.refl _) (SubL.nil) (Y.move rfl) HistOk.z ?_
  refine JR.qt rfl (SubM.refl _) (SubL.nil) (Y.move rfl) HistOk.z ?_
  replace h := ck_some h; obtain ⟨hc1, h⟩ := h
  refine JR.qt rfl (SubM.refl _) (SubL.cons (List.mem_of_getElem? (i := 0) rfl) (SubL.nil)) (Y.sliceH rfl rfl (Lent.fact 0 rfl) rfl rfl hc1) HistOk.z ?_
  refine JR.stp (Stp.nilAr EI64I64p) ?_
  replace h := ck_some h; obtain ⟨hc3, h⟩ := h
  refine JR.loud rfl rfl rfl (Loud.appendL 0 FI64I64p rfl rfl rfl (Lent.part (Lent.fact 0 rfl) rfl hc1) rfl rfl rfl rfl hc3 rfl) rfl (fun u2 => (BsOk.b rfl (BsOk.b rfl (BsOk.b rfl BsOk.z)))) fun u2 => ?_
  refine JR.qt rfl (SubM.nil) (SubL.nil) (Y.move rfl) (HistOk.h (SubM.nil) (SubL.nil) HistOk.z) ?_
  refine JR.qt rfl (SubM.nil) (SubL.nil) (Y.move rfl) (HistOk.h (SubM.nil) (SubL.nil) HistOk.z) ?_
  refine JR.qt rfl (SubM.nil) (SubL.nil) (Y.addW rfl rfl) (HistOk.h (SubM.nil) (SubL.nil) HistOk.z) ?_
  replace h := ck_some h; obtain ⟨hc4, h⟩ := h
  refine JR.qt rfl (SubM.nil) (SubL.cons (List.mem_of_getElem? (i := 0) rfl) (SubL.nil)) (Y.sliceL rfl rfl (Lent.fact 0 rfl) rfl rfl hc4) (HistOk.h (SubM.nil) (SubL.cons (List.mem_of_getElem? (i := 0) rfl) (SubL.nil)) HistOk.z) ?_
  refine JR.tailD 8 rfl rfl ?_
  replace h := ck_some h; obtain ⟨hc6, h⟩ := h
  refine J.loud (Loud.appendL 0 FI64I64p rfl rfl rfl (Lent.part (Lent.fact 0 rfl) rfl hc4) rfl rfl rfl rfl hc6 rfl) rfl fun u5 => ?_
  refine J.quiet (Y.assign rfl) rfl ?_
  refine J.done ?_
  refine J.thenN ?_
  refine J.ret ?_
  obtain rfl := Option.some.inj h
  exact J.retG1 (u5) rfl rfl (RV.tmp rfl) (SubM.refl _) LentAll.nil

end Go.Proofs.Ytemhmmcakmidkaa
end
section
set_option linter.unusedVariables false
set_option linter.unusedSimpArgs false
namespace Go.Proofs.Ytemhmmcakmidkaa
open Go.Sx
set_option linter.unusedVariables false
set_option linter.unusedSimpArgs false
def ref03_Cut_k1 (fuel : Nat) (p0 : List (Int) × (List (List (Int × Int)))) (p1 : Int) (p2 : Int) (a8 : Bool) : Option ((List (Int) × (List (List (Int × Int)))) × Int) :=
  if a8 = true then (some (((([] : List Int), ([] : List (List (Int × Int))))), (2 : Int))) else (Option.bind (m_ref03_Copy fuel ((p0.1, p0.2))) fun r11 => (ck (0 ≤ p1 ∧ p1 < (List.length p0.2 : Int)) (Option.bind (m_ref01_Port fuel ((p0.1, p0.2)) p1 p2) fun r18 => (Option.bind (m_ref03_without fuel (at' p0.2 p1) r18) fun r21 => (ck (0 ≤ p1 ∧ p1 < (List.length r11.2 : Int)) (ck (0 ≤ p2 ∧ p2 < (List.length p0.2 : Int)) (Option.bind (m_ref01_Port fuel ((p0.1, p0.2)) p2 p1) fun r27 => (Option.bind (m_ref03_without fuel (at' p0.2 p2) r27) fun r30 => (ck (0 ≤ p2 ∧ p2 < (List.length (List.set r11.2 (Int.toNat p1) r21) : Int)) (some (((r11.1, (List.set (List.set r11.2 (Int.toNat p1) r21) (Int.toNat p2) r30))), (0 : Int))))))))))))
def m_ref03_Cut (fuel : Nat) (p0 : List (Int) × (List (List (Int × Int)))) (p1 : Int) (p2 : Int) : Option ((List (Int) × (List (List (Int × Int)))) × Int) :=
  Option.bind (m_ref01_Valid fuel ((p0.1, p0.2))) fun r3 => (if (!r3) = true then (some (((([] : List Int), ([] : List (List (Int × Int))))), (1 : Int))) else (Option.bind (m_ref03_nodes fuel ((p0.1, p0.2)) p1 p2) fun r37 => (if (!r37) = true then (ref03_Cut_k1 fuel p0 p1 p2 (true)) else (Option.bind (m_ref01_Port fuel ((p0.1, p0.2)) p1 p2) fun r41 => (ref03_Cut_k1 fuel p0 p1 p2 (decide (r41 < (0 : Int))))))))

theorem body60 : HasBody Try.prog 60 := Try.call60

set_option maxHeartbeats 4000000 in
set_option maxRecDepth 20000 in
theorem t_ref03_Cut (fuel : Nat) {p0 : List (Int) × (List (List (Int × Int)))} {p1 : Int} {p2 : Int} (v0 : Value)  (v1 : Value)  (z2 : List (Value × List (Int × Int))) (r : (List (Int) × (List (List (Int × Int)))) × Int) (h : m_ref03_Cut fuel p0 p1 p2 = some r) :
    Meets Try.prog 60 #[Value.agg #[v0, v1], Value.int .i64 (p1), Value.int .i64 (p2)] [Sl RI64 v0 p0.1, S2 RI64I64p v1 z2 p0.2] (fun x : Value × Value × List Value => Value.tuple #[Value.agg #[x.1, x.2.1], Value.int .i64 (r.2)]) (fun x l => Ar EI64 x.1 r.1.1 :: Ar Enc.raw x.2.1 x.2.2 :: Rws EI64I64p x.2.2 r.1.2 :: l) (fun _ l => l) := by
  refine Meets.of (vs := [Value.agg #[v0, v1], Value.int .i64 (p1), Value.int .i64 (p2)]) Try.func60 rfl Try.ntmps60 rfl fun c => ?_
  unfold m_ref03_Cut at h
  refine J.seq ?_
  refine J.region ?_
  refine J.loud (Loud.box (cs := [v0, v1]) rfl rfl) rfl fun b1 => ?_
  refine J.loud (Loud.alloc (cs := [Value.slice none 0 0, Value.slice none 0 0]) rfl rfl) rfl fun b2 => ?_
  refine J.quiet (Y.assign rfl) rfl ?_
  refine J.done ?_
  refine J.thenN ?_
  refine J.seq ?_
  refine J.seq ?_
  refine J.region ?_
  refine J.quiet (Y.loadBAll 1 rfl rfl rfl rfl) rfl ?_
  replace h := bnd h; obtain ⟨r3, hr4, h⟩ := h
  refine J.loud (Loud.callL body51 (t_ref01_Valid fuel v0 v1 z2 r3 hr4) rfl (LentAll.cons (Lent.fact 0 rfl) (LentAll.cons (Lent.fact 1 rfl) (LentAll.nil))) (fun _ _ => rfl)) rfl fun x5 => ?_
  refine J.quiet (Y.not rfl) rfl ?_
  refine J.done ?_
  refine J.thenN ?_
  refine J.cond (by exact rfl) (fun hp6 => ?_) (fun hp6 => ?_)
  · replace h := ifP hp6 h
    refine J.seq ?_
    refine J.region ?_
    refine J.quiet (Y.bld0 (r := Value.agg #[Value.slice none 0 0, Value.slice none 0 0]) (by intro w; simp [Instr.build, Instr.fill, cells_intV, cells_boolV, cells_sliceV, cells_ptrV, cells_strV, cells_funcV, cells_agg])) rfl ?_
    refine J.storeAll 0 (vs := [Value.slice none 0 0, Value.slice none 0 0]) rfl rfl rfl rfl rfl rfl ?_
    refine J.quiet (Y.assign rfl) rfl ?_
    refine J.done ?_
    refine J.thenN ?_
    refine J.ret ?_
    refine J.thenR ?_
    refine J.stp (Stp.nilAr EI64) ?_
    refine J.stp (Stp.nilAr Enc.raw) (J.stp (Stp.rowsNil EI64I64p) ?_)
    obtain rfl := Option.some.inj h
    exact J.retG2 ((Value.slice none 0 0), (Value.slice none 0 0), ([] : List Value)) rfl rfl (RV.cell 3 rfl rfl rfl rfl) (RV.tmp rfl) (SubM.cons 2 rfl (SubM.cons 1 rfl (SubM.cons 0 rfl (SubM.nil)))) LentAll.nil
  · replace h := ifBN hp6 h
    refine J.skip ?_
    refine J.thenN ?_
    refine J.seq ?_
    refine J.seq ?_
    refine J.midI (A := Bool) (B := Unit) (fun a8 => ref03_Cut_k1 fuel p0 p1 p2 a8 = some r) (fun a8 b9 => [(1, Value.int .i64 (p1)), (2, Value.int .i64 (p2)), (3, Value.pointer (some ⟨b1, 0, none⟩)), (6, Value.pointer (some ⟨b2, 0, none⟩)), (24, Value.bool (a8))]) (fun a8 b9 => [Blk b2 [Value.slice none 0 0, Value.slice none 0 0] 26, Blk b1 [v0, v1] 26]) (fun a8 b9 => [Sl RI64 v0 p0.1, S2 RI64I64p v1 z2 p0.2]) ?_ ?_
    · refine J.region ?_
      refine J.quiet (Y.loadBAll 1 rfl rfl rfl rfl) rfl ?_
      refine J.quiet (Y.move rfl) rfl ?_
      refine J.quiet (Y.move rfl) rfl ?_
      replace h := bnd h; obtain ⟨r37, hr38, h⟩ := h
      refine J.loud (Loud.callL body96 (t_ref03_nodes fuel v0 v1 z2 r37 hr38) rfl (LentAll.cons (Lent.fact 0 rfl) (LentAll.cons (Lent.fact 1 rfl) (LentAll.nil))) (fun _ _ => rfl)) rfl fun x39 => ?_
      refine J.quiet (Y.not rfl) rfl ?_
      refine J.quiet (Y.move rfl) rfl ?_
      refine J.guard (by exact rfl) (by exact rfl) (fun hp40 => ?_) (fun hp40 => ?_)
      · replace h := ifP hp40 h
        refine J.guardN rfl rfl rfl ?_
        refine J.guardN rfl rfl rfl ?_
        refine J.guardN rfl rfl rfl ?_
        refine J.guardN rfl rfl rfl ?_
        refine J.guardN rfl rfl rfl ?_
        refine J.quiet (Y.pickT rfl rfl) rfl ?_
        refine J.done ?_
        refine J.thenN ?_
        exact J.meetI (true) (()) h (by repeat (first | exact SubF.nil | refine SubF.cons rfl ?_)) (SubM.refl _) (LentAll.refl _ _)
      · replace h := ifBN hp40 h
        refine J.guardY rfl (Y.loadBAll 1 rfl rfl rfl rfl) rfl ?_
        refine J.guardY rfl (Y.move rfl) rfl ?_
        refine J.guardY rfl (Y.move rfl) rfl ?_
        replace h := bnd h; obtain ⟨r41, hr42, h⟩ := h
        refine J.loudG rfl (Loud.callL body92 (t_ref01_Port fuel v0 v1 z2 r41 hr42) rfl (LentAll.cons (Lent.fact 0 rfl) (LentAll.cons (Lent.fact 1 rfl) (LentAll.nil))) (fun _ _ => rfl)) rfl fun x43 => ?_
        refine J.guardY rfl (Y.lss rfl rfl) rfl ?_
        refine J.quiet (Y.pickF rfl rfl) rfl ?_
        refine J.done ?_
        refine J.thenN ?_
        exact J.meetI (decide (r41 < (0 : Int))) (()) h (by repeat (first | exact SubF.nil | refine SubF.cons rfl ?_)) (SubM.refl _) (LentAll.refl _ _)
    · clear h
      intro a8 b9 h
      unfold ref03_Cut_k1 at h
      refine J.cond (by exact rfl) (fun hp10 => ?_) (fun hp10 => ?_)
      · replace h := ifP hp10 h
        refine J.seq ?_
        refine J.region ?_
        refine J.quiet (Y.bld0 (r := Value.agg #[Value.slice none 0 0, Value.slice none 0 0]) (by intro w; simp [Instr.build, Instr.fill, cells_intV, cells_boolV, cells_sliceV, cells_ptrV, cells_strV, cells_funcV, cells_agg])) rfl ?_
        refine J.storeAll 0 (vs := [Value.slice none 0 0, Value.slice none 0 0]) rfl rfl rfl rfl rfl rfl ?_
        refine J.quiet (Y.assign rfl) rfl ?_
        refine J.done ?_
        refine J.thenN ?_
        refine J.ret ?_
        refine J.thenR ?_
        refine J.stp (Stp.nilAr EI64) ?_
        refine J.stp (Stp.nilAr Enc.raw) (J.stp (Stp.rowsNil EI64I64p) ?_)
        obtain rfl := Option.some.inj h
        exact J.retG2 ((Value.slice none 0 0), (Value.slice none 0 0), ([] : List Value)) rfl rfl (RV.cell 3 rfl rfl rfl rfl) (RV.tmp rfl) (SubM.cons 2 rfl (SubM.cons 1 rfl (SubM.cons 0 rfl (SubM.nil)))) LentAll.nil
      · replace h := ifBN hp10 h
        refine J.skip ?_
        refine J.thenN ?_
        refine J.seq ?_
        refine J.region ?_
        refine J.quiet (Y.loadBAll 1 rfl rfl rfl rfl) rfl ?_
        replace h := bnd h; obtain ⟨r11, hr12, h⟩ := h
        refine J.loud (Loud.callL body90 (t_ref03_Copy fuel v0 v1 z2 r11 hr12) rfl (LentAll.cons (Lent.fact 0 rfl) (LentAll.cons (Lent.fact 1 rfl) (LentAll.nil))) (fun _ _ => rfl)) rfl fun x13 => ?_
        refine J.loud (Loud.alloc (cs := [Value.slice none 0 0, Value.slice none 0 0]) rfl rfl) rfl fun b14 => ?_
        refine J.know (Know.one ((Lent.ar (Lent.res 1 rfl) FI64))) fun ho15 => ?_
        refine J.know (Know.one (Lent.sl (Lent.rows (i := 2) (j := 3) rfl rfl FI64I64p))) fun ho16 => ?_
        refine J.storeAll 0 (vs := [x13.1, x13.2.1]) rfl rfl (all1 ho15 (all1 ho16 rfl)) rfl rfl rfl ?_
        refine J.done ?_
        refine J.thenN ?_
        refine J.seq ?_
        refine JR.start [0, 1, 0, 0, 8, 0, 56, 120, 0, 0, 0, 1792, 4088, 8191, 16383] 13 mixedOrders (by decide +kernel) ?_
        refine JR.open (by exact rfl) ?_
        refine JR.qt rfl (SubM.nil) (SubL.nil) (Y.fieldB rfl rfl rfl rfl rfl) HistOk.z ?_
        refine JR.qt rfl (SubM.cons 0 rfl (SubM.nil)) (SubL.nil) (Y.loadB 0 rfl rfl rfl rfl rfl) HistOk.z ?_
        refine JR.qt rfl (SubM.nil) (SubL.nil) (Y.move rfl) HistOk.z ?_
        refine JR.qt rfl (SubM.nil) (SubL.nil) (Y.fieldB rfl rfl rfl rfl rfl) HistOk.z ?_
        refine JR.qt rfl (SubM.cons 5 rfl (SubM.nil)) (SubL.nil) (Y.loadB 0 rfl rfl rfl rfl rfl) HistOk.z ?_
        refine JR.qt rfl (SubM.nil) (SubL.nil) (Y.move rfl) HistOk.z ?_
        replace h := ck_some h; obtain ⟨hc17, h⟩ := h
        refine JR.qt rfl (SubM.nil) (SubL.cons (List.mem_of_getElem? (i := 1) rfl) (SubL.nil)) (Y.indexN rfl rfl (Lent.fact 0 rfl) rfl rfl hc17) HistOk.z ?_
        refine JR.qt rfl (SubM.nil) (SubL.cons (List.mem_of_getElem? (i := 1) rfl) (SubL.nil)) (Y.loadRow rfl (Lent.fact 0 rfl) rfl rfl hc17) HistOk.z ?_
        refine JR.qt rfl (SubM.cons 5 rfl (SubM.nil)) (SubL.nil) (Y.loadBAll 0 rfl rfl rfl rfl) HistOk.z ?_
        refine JR.qt rfl (SubM.nil) (SubL.nil) (Y.move rfl) HistOk.z ?_
        refine JR.qt rfl (SubM.nil) (SubL.nil) (Y.move rfl) HistOk.z ?_
        replace h := bnd h; obtain ⟨r18, hr19, h⟩ := h
        refine JR.loud rfl rfl rfl (Loud.callL body92 (t_ref01_Port fuel v0 v1 z2 r18 hr19) rfl (LentAll.cons (Lent.fact 0 rfl) (LentAll.cons (Lent.fact 1 rfl) (LentAll.nil))) (fun _ _ => rfl)) rfl (fun x20 => (BsOk.b rfl (BsOk.b rfl (BsOk.b rfl (BsOk.h (SubM.nil) (SubL.cons (List.mem_of_getElem? (i := 1) rfl) (SubL.nil)) (BsOk.h (SubM.nil) (SubL.cons (List.mem_of_getElem? (i := 1) rfl) (SubL.nil)) (BsOk.h (SubM.nil) (SubL.nil) (BsOk.h (SubM.cons 5 rfl (SubM.nil)) (SubL.nil) (BsOk.h (SubM.nil) (SubL.nil) (BsOk.h (SubM.nil) (SubL.nil) (BsOk.h (SubM.cons 0 rfl (SubM.nil)) (SubL.nil) (BsOk.h (SubM.nil) (SubL.nil) BsOk.z)))))))))))) fun x20 => ?_
        replace h := bnd h; obtain ⟨r21, hr22, h⟩ := h
        refine JR.loud rfl rfl rfl (Loud.callL body97 (t_ref03_without fuel ((at' z2 p1).1) r21 hr22) rfl (LentAll.cons (Lent.el (Lent.fact 1 rfl) hc17.1 hc17.2) (LentAll.nil)) (fun _ _ => rfl)) rfl (fun x23 => (BsOk.b rfl (BsOk.b rfl (BsOk.b rfl (BsOk.b rfl (BsOk.b rfl (BsOk.b rfl (BsOk.b rfl (BsOk.b rfl (BsOk.h (SubM.nil) (SubL.nil) (BsOk.h (SubM.cons 1 rfl (SubM.nil)) (SubL.nil) (BsOk.h (SubM.nil) (SubL.nil) BsOk.z)))))))))))) fun x23 => ?_
        refine JR.tailD 13 rfl rfl ?_
        replace h := ck_some h; obtain ⟨hc24, h⟩ := h
        refine J.quiet (Y.indexN rfl rfl (Lent.rows (i := 3) (j := 4) rfl rfl FI64I64p) rfl rfl hc24) rfl ?_
        refine J.know (Know.one ((Lent.ar (Lent.res 0 rfl) FI64I64p))) fun ho25 => ?_
        refine J.stp (Stp.putRow (k := p1) 4 0 rfl rfl rfl hc24) ?_
        refine J.storeRow 2 3 ⟨hc24.1, by simpa using hc24.2⟩ rfl rfl rfl rfl rfl (by simp) ho25 rfl ?_
        refine J.done ?_
        refine J.thenN ?_
        refine J.seq ?_
        refine JR.start [0, 1, 0, 0, 8, 0, 56, 120, 0, 0, 0, 1792, 4088, 8191, 16383] 13 mixedOrders (by decide +kernel) ?_
        refine JR.open (by exact rfl) ?_
        refine JR.qt rfl (SubM.nil) (SubL.nil) (Y.fieldB rfl rfl rfl rfl rfl) HistOk.z ?_
        refine JR.qt rfl (SubM.cons 0 rfl (SubM.nil)) (SubL.nil) (Y.loadB 0 rfl rfl rfl rfl rfl) HistOk.z ?_
        refine JR.qt rfl (SubM.nil) (SubL.nil) (Y.move rfl) HistOk.z ?_
        refine JR.qt rfl (SubM.nil) (SubL.nil) (Y.fieldB rfl rfl rfl rfl rfl) HistOk.z ?_
        refine JR.qt rfl (SubM.cons 5 rfl (SubM.nil)) (SubL.nil) (Y.loadB 0 rfl rfl rfl rfl rfl) HistOk.z ?_
        refine JR.qt rfl (SubM.nil) (SubL.nil) (Y.move rfl) HistOk.z ?_
        replace h := ck_some h; obtain ⟨hc26, h⟩ := h
        refine JR.qt rfl (SubM.nil) (SubL.cons (List.mem_of_getElem? (i := 1) rfl) (SubL.nil)) (Y.indexN rfl rfl (Lent.fact 0 rfl) rfl rfl hc26) HistOk.z ?_
        refine JR.qt rfl (SubM.nil) (SubL.cons (List.mem_of_getElem? (i := 1) rfl) (SubL.nil)) (Y.loadRow rfl (Lent.fact 0 rfl) rfl rfl hc26) HistOk.z ?_
        refine JR.qt rfl (SubM.cons 5 rfl (SubM.nil)) (SubL.nil) (Y.loadBAll 0 rfl rfl rfl rfl) HistOk.z ?_
        refine JR.qt rfl (SubM.nil) (SubL.nil) (Y.move rfl) HistOk.z ?_
        refine JR.qt rfl (SubM.nil) (SubL.nil) (Y.move rfl) HistOk.z ?_
        replace h := bnd h; obtain ⟨r27, hr28, h⟩ := h
        refine JR.loud rfl rfl rfl (Loud.callL body92 (t_ref01_Port fuel v0 v1 z2 r27 hr28) rfl (LentAll.cons (Lent.fact 0 rfl) (LentAll.cons (Lent.fact 1 rfl) (LentAll.nil))) (fun _ _ => rfl)) rfl (fun x29 => (BsOk.b rfl (BsOk.b rfl (BsOk.b rfl (BsOk.h (SubM.nil) (SubL.cons (List.mem_of_getElem? (i := 1) rfl) (SubL.nil)) (BsOk.h (SubM.nil) (SubL.cons (List.mem_of_getElem? (i := 1) rfl) (SubL.nil)) (BsOk.h (SubM.nil) (SubL.nil) (BsOk.h (SubM.cons 5 rfl (SubM.nil)) (SubL.nil) (BsOk.h (SubM.nil) (SubL.nil) (BsOk.h (SubM.nil) (SubL.nil) (BsOk.h (SubM.cons 0 rfl (SubM.nil)) (SubL.nil) (BsOk.h (SubM.nil) (SubL.nil) BsOk.z)))))))))))) fun x29 => ?_
        replace h := bnd h; obtain ⟨r30, hr31, h⟩ := h
        refine JR.loud rfl rfl rfl (Loud.callL body97 (t_ref03_without fuel ((at' z2 p2).1) r30 hr31) rfl (LentAll.cons (Lent.el (Lent.fact 1 rfl) hc26.1 hc26.2) (LentAll.nil)) (fun _ _ => rfl)) rfl (fun x32 => (BsOk.b rfl (BsOk.b rfl (BsOk.b rfl (BsOk.b rfl (BsOk.b rfl (BsOk.b rfl (BsOk.b rfl (BsOk.b rfl (BsOk.h (SubM.nil) (SubL.nil) (BsOk.h (SubM.cons 1 rfl (SubM.nil)) (SubL.nil) (BsOk.h (SubM.nil) (SubL.nil) BsOk.z)))))))))))) fun x32 => ?_
        refine JR.tailD 13 rfl rfl ?_
        replace h := ck_some h; obtain ⟨hc33, h⟩ := h
        refine J.quiet (Y.indexN rfl rfl (Lent.rows (i := 3) (j := 4) rfl rfl FI64I64p) rfl rfl hc33) rfl ?_
        refine J.know (Know.one ((Lent.ar (Lent.res 0 rfl) FI64I64p))) fun ho34 => ?_
        refine J.stp (Stp.putRow (k := p2) 4 0 rfl rfl rfl hc33) ?_
        refine J.storeRow 2 3 ⟨hc33.1, by simpa using hc33.2⟩ rfl rfl rfl rfl rfl (by simp) ho34 rfl ?_
        refine J.done ?_
        refine J.thenN ?_
        refine J.seq ?_
        refine J.region ?_
        refine J.quiet (Y.loadBAll 0 rfl rfl rfl rfl) rfl ?_
        refine J.know (Know.one ((Lent.ar (Lent.res 1 rfl) FI64))) fun ho35 => ?_
        refine J.know (Know.one (Lent.sl (Lent.rows (i := 2) (j := 3) rfl rfl FI64I64p))) fun ho36 => ?_
        refine J.storeAll 4 (vs := [x13.1, x13.2.1]) rfl rfl (all1 ho35 (all1 ho36 rfl)) rfl rfl rfl ?_
        refine J.quiet (Y.assign rfl) rfl ?_
        refine J.done ?_
        refine J.thenN ?_
        refine J.ret ?_
        obtain rfl := Option.some.inj h
        exact J.retG2 (x13.1, x13.2.1, (List.set (List.set x13.2.2 (Int.toNat p1) x23) (Int.toNat p2) x32)) rfl rfl (RV.cell 4 rfl rfl rfl rfl) (RV.tmp rfl) (SubM.cons 1 rfl (SubM.cons 1 rfl (SubM.cons 1 rfl (SubM.nil)))) LentAll.nil

end Go.Proofs.Ytemhmmcakmidkaa
end
section
set_option linter.unusedVariables false
set_option linter.unusedSimpArgs false
namespace Go.Proofs.Ytemhmmcakmidkaa
open Go.Sx
set_option linter.unusedVariables false
set_option linter.unusedSimpArgs false
def family_Connect_k3 (a21 : (List (List (Int × Int))) × List (Int)) (a25 : (List (List (Int × Int)))) : Option ((List (Int) × (List (List (Int × Int)))) × Int) :=
  some (((a21.2, a25)), (0 : Int))
def family_Connect_s1 (p3 : Int) (r7 : ((Int × Int) × (Int × Int)) × Bool) (a21 : (List (List (Int × Int))) × List (Int)) (a33 : Int × (List (List (Int × Int)))) (ag32 : (Int × (List (List (Int × Int)))) → Option ((List (Int) × (List (List (Int × Int)))) × Int)) : Option ((List (Int) × (List (List (Int × Int)))) × Int) :=
  if a33.1 < (2 : Int) then (ck (0 ≤ a33.1 ∧ a33.1 < ((2 : Nat) : Int)) (ck (0 ≤ (at' [r7.1.1.1, r7.1.2.1] ((Int.toNat a33.1 : Nat) : Int)) ∧ (at' [r7.1.1.1, r7.1.2.1] ((Int.toNat a33.1 : Nat) : Int)) < (List.length a33.2 : Int)) (ck ((List.length (at' a33.2 (at' [r7.1.1.1, r7.1.2.1] ((Int.toNat a33.1 : Nat) : Int))) : Int) + (List.length ([ ((at' [r7.1.1.2, r7.1.2.2] ((Int.toNat a33.1 : Nat) : Int)), p3)]) : Int) ≤ 1099511627) (ck (0 ≤ (at' [r7.1.1.1, r7.1.2.1] ((Int.toNat a33.1 : Nat) : Int)) ∧ (at' [r7.1.1.1, r7.1.2.1] ((Int.toNat a33.1 : Nat) : Int)) < (List.length (List.set a33.2 (Int.toNat (at' [r7.1.1.1, r7.1.2.1] ((Int.toNat a33.1 : Nat) : Int))) ((at' a33.2 (at' [r7.1.1.1, r7.1.2.1] ((Int.toNat a33.1 : Nat) : Int))) ++ ([ ((at' [r7.1.1.2, r7.1.2.2] ((Int.toNat a33.1 : Nat) : Int)), p3)]))) : Int)) (ag32 ((wI .i64 (a33.1 + (1 : Int))), (List.set a33.2 (Int.toNat (at' [r7.1.1.1, r7.1.2.1] ((Int.toNat a33.1 : Nat) : Int))) ((at' a33.2 (at' [r7.1.1.1, r7.1.2.1] ((Int.toNat a33.1 : Nat) : Int))) ++ ([ ((at' [r7.1.1.2, r7.1.2.2] ((Int.toNat a33.1 : Nat) : Int)), p3)]))))))))) else (family_Connect_k3 a21 (a33.2))
def family_Connect_k2 (fuel : Nat) (p3 : Int) (r7 : ((Int × Int) × (Int × Int)) × Bool) (a21 : (List (List (Int × Int))) × List (Int)) : Option ((List (Int) × (List (List (Int × Int)))) × Int) :=
  iter (family_Connect_s1 p3 r7 a21) fuel ((0 : Int), a21.1)
def family_Connect_k1 (fuel : Nat) (p0 : List (Int) × (List (List (Int × Int)))) (p3 : Int) (r7 : ((Int × Int) × (Int × Int)) × Bool) (a12 : Bool) : Option ((List (Int) × (List (List (Int × Int)))) × Int) :=
  if a12 = true then (some (((([] : List Int), ([] : List (List (Int × Int))))), (2 : Int))) else (Option.bind (m_slices_Clone fuel p0.1) fun r48 => (Option.bind (m_family_copied fuel p0.2) fun r51 => (family_Connect_k2 fuel p3 r7 (r51, r48))))
def m_family_Connect (fuel : Nat) (p0 : List (Int) × (List (List (Int × Int)))) (p1 : Int) (p2 : Int) (p3 : Int) : Option ((List (Int) × (List (List (Int × Int)))) × Int) :=
  Option.bind (m_graph_Valid fuel ((p0.1, p0.2))) fun r3 => (if (!r3) = true then (some (((([] : List Int), ([] : List (List (Int × Int))))), (1 : Int))) else (Option.bind (m_family_ends fuel ((p0.1, p0.2)) p1 p2) fun r7 => (if (!r7.2) = true then (family_Connect_k1 fuel p0 p3 r7 (true)) else (Option.bind (m_graph_PortTo fuel ((p0.1, p0.2)) p1 p2) fun r81 => (if (0 : Int) ≤ r81 then (family_Connect_k1 fuel p0 p3 r7 (true)) else (if p3 < (1 : Int) then (family_Connect_k1 fuel p0 p3 r7 (true)) else (family_Connect_k1 fuel p0 p3 r7 (decide ((15 : Int) < p3)))))))))

theorem body61 : HasBody Try.prog 61 := Try.call61

set_option maxHeartbeats 4000000 in
set_option maxRecDepth 20000 in
theorem t_family_Connect (fuel : Nat) {p0 : List (Int) × (List (List (Int × Int)))} {p1 : Int} {p2 : Int} {p3 : Int} (v0 : Value)  (v1 : Value)  (z2 : List (Value × List (Int × Int))) (r : (List (Int) × (List (List (Int × Int)))) × Int) (h : m_family_Connect fuel p0 p1 p2 p3 = some r) :
    Meets Try.prog 61 #[Value.agg #[v0, v1], Value.int .i64 (p1), Value.int .i64 (p2), Value.int .i64 (p3)] [Sl RI64 v0 p0.1, S2 RI64I64p v1 z2 p0.2] (fun x : Value × Value × List Value => Value.tuple #[Value.agg #[x.1, x.2.1], Value.int .i64 (r.2)]) (fun x l => Ar EI64 x.1 r.1.1 :: Ar Enc.raw x.2.1 x.2.2 :: Rws EI64I64p x.2.2 r.1.2 :: l) (fun _ l => l) := by
  refine Meets.of (vs := [Value.agg #[v0, v1], Value.int .i64 (p1), Value.int .i64 (p2), Value.int .i64 (p3)]) Try.func61 rfl Try.ntmps61 rfl fun c => ?_
  unfold m_family_Connect at h
  refine J.seq ?_
  refine J.region ?_
  refine J.loud (Loud.box (cs := [v0, v1]) rfl rfl) rfl fun b1 => ?_
  refine J.loud (Loud.alloc (cs := [Value.slice none 0 0, Value.slice none 0 0]) rfl rfl) rfl fun b2 => ?_
  refine J.quiet (Y.assign rfl) rfl ?_
  refine J.done ?_
  refine J.thenN ?_
  refine J.seq ?_
  refine J.seq ?_
  refine J.region ?_
  refine J.quiet (Y.loadBAll 1 rfl rfl rfl rfl) rfl ?_
  replace h := bnd h; obtain ⟨r3, hr4, h⟩ := h
  refine J.loud (Loud.callL body64 (t_graph_Valid fuel v0 v1 z2 r3 hr4) rfl (LentAll.cons (Lent.fact 0 rfl) (LentAll.cons (Lent.fact 1 rfl) (LentAll.nil))) (fun _ _ => rfl)) rfl fun x5 => ?_
  refine J.quiet (Y.not rfl) rfl ?_
  refine J.done ?_
  refine J.thenN ?_
  refine J.cond (by exact rfl) (fun hp6 => ?_) (fun hp6 => ?_)
  · replace h := ifP hp6 h
    refine J.seq ?_
    refine J.region ?_
    refine J.quiet (Y.bld0 (r := Value.agg #[Value.slice none 0 0, Value.slice none 0 0]) (by intro w; simp [Instr.build, Instr.fill, cells_intV, cells_boolV, cells_sliceV, cells_ptrV, cells_strV, cells_funcV, cells_agg])) rfl ?_
    refine J.storeAll 0 (vs := [Value.slice none 0 0, Value.slice none 0 0]) rfl rfl rfl rfl rfl rfl ?_
    refine J.quiet (Y.assign rfl) rfl ?_
    refine J.done ?_
    refine J.thenN ?_
    refine J.ret ?_
    refine J.thenR ?_
    refine J.stp (Stp.nilAr EI64) ?_
    refine J.stp (Stp.nilAr Enc.raw) (J.stp (Stp.rowsNil EI64I64p) ?_)
    obtain rfl := Option.some.inj h
    exact J.retG2 ((Value.slice none 0 0), (Value.slice none 0 0), ([] : List Value)) rfl rfl (RV.cell 3 rfl rfl rfl rfl) (RV.tmp rfl) (SubM.cons 2 rfl (SubM.cons 1 rfl (SubM.cons 0 rfl (SubM.nil)))) LentAll.nil
  · replace h := ifBN hp6 h
    refine J.skip ?_
    refine J.thenN ?_
    refine J.seq ?_
    refine J.region ?_
    refine J.quiet (Y.loadBAll 1 rfl rfl rfl rfl) rfl ?_
    refine J.quiet (Y.move rfl) rfl ?_
    refine J.quiet (Y.move rfl) rfl ?_
    replace h := bnd h; obtain ⟨r7, hr8, h⟩ := h
    refine J.loud (Loud.callL body94 (t_family_ends fuel v0 v1 z2 r7 hr8) rfl (LentAll.cons (Lent.fact 0 rfl) (LentAll.cons (Lent.fact 1 rfl) (LentAll.nil))) (fun _ _ => rfl)) rfl fun x9 => ?_
    refine J.quiet (Y.move rfl) rfl ?_
    refine J.quiet (Y.extract rfl rfl) rfl ?_
    refine J.quiet (Y.extract rfl rfl) rfl ?_
    refine J.loud (Loud.alloc (cs := [Value.int .i64 (0 : Int), Value.int .i64 (0 : Int), Value.int .i64 (0 : Int), Value.int .i64 (0 : Int)]) rfl rfl) rfl fun b10 => ?_
    refine J.storeAll 0 (vs := [Value.int .i64 (r7.1.1.1), Value.int .i64 (r7.1.1.2), Value.int .i64 (r7.1.2.1), Value.int .i64 (r7.1.2.2)]) rfl rfl rfl rfl rfl rfl ?_
    refine J.quiet (Y.assign rfl) rfl ?_
    refine J.done ?_
    refine J.thenN ?_
    refine J.seq ?_
    refine J.seq ?_
    refine J.midI (A := Bool) (B := Unit) (fun a12 => family_Connect_k1 fuel p0 p3 r7 a12 = some r) (fun a12 b13 => [(3, Value.int .i64 (p3)), (4, Value.pointer (some ⟨b1, 0, none⟩)), (8, Value.pointer (some ⟨b2, 0, none⟩)), (10, Value.pointer (some ⟨b10, 0, none⟩)), (42, Value.bool (a12))]) (fun a12 b13 => [Blk b10 [Value.int .i64 (r7.1.1.1), Value.int .i64 (r7.1.1.2), Value.int .i64 (r7.1.2.1), Value.int .i64 (r7.1.2.2)] 76, Blk b2 [Value.slice none 0 0, Value.slice none 0 0] 26, Blk b1 [v0, v1] 26]) (fun a12 b13 => [Sl RI64 v0 p0.1, S2 RI64I64p v1 z2 p0.2]) ?_ ?_
    · refine J.region ?_
      refine J.quiet (Y.move rfl) rfl ?_
      refine J.quiet (Y.not rfl) rfl ?_
      refine J.quiet (Y.move rfl) rfl ?_
      refine J.guard (by exact rfl) (by exact rfl) (fun hp80 => ?_) (fun hp80 => ?_)
      · replace h := ifP hp80 h
        refine J.guardN rfl rfl rfl ?_
        refine J.guardN rfl rfl rfl ?_
        refine J.guardN rfl rfl rfl ?_
        refine J.guardN rfl rfl rfl ?_
        refine J.guardN rfl rfl rfl ?_
        refine J.quiet (Y.pickT rfl rfl) rfl ?_
        refine J.quiet (Y.move rfl) rfl ?_
        refine J.guardN rfl rfl rfl ?_
        refine J.guardN rfl rfl rfl ?_
        refine J.quiet (Y.pickT rfl rfl) rfl ?_
        refine J.quiet (Y.move rfl) rfl ?_
        refine J.guardN rfl rfl rfl ?_
        refine J.guardN rfl rfl rfl ?_
        refine J.quiet (Y.pickT rfl rfl) rfl ?_
        refine J.done ?_
        refine J.thenN ?_
        exact J.meetI (true) (()) h (by repeat (first | exact SubF.nil | refine SubF.cons rfl ?_)) (SubM.refl _) (LentAll.refl _ _)
      · replace h := ifBN hp80 h
        refine J.guardY rfl (Y.loadBAll 2 rfl rfl rfl rfl) rfl ?_
        refine J.guardY rfl (Y.move rfl) rfl ?_
        refine J.guardY rfl (Y.move rfl) rfl ?_
        replace h := bnd h; obtain ⟨r81, hr82, h⟩ := h
        refine J.loudG rfl (Loud.callL body83 (t_graph_PortTo fuel v0 v1 z2 r81 hr82) rfl (LentAll.cons (Lent.fact 0 rfl) (LentAll.cons (Lent.fact 1 rfl) (LentAll.nil))) (fun _ _ => rfl)) rfl fun x83 => ?_
        refine J.guardY rfl (Y.geq rfl rfl) rfl ?_
        refine J.quiet (Y.pickF rfl rfl) rfl ?_
        refine J.quiet (Y.move rfl) rfl ?_
        refine J.guardD (by exact rfl) (by exact rfl) (fun hp84 => ?_) (fun hp84 => ?_)
        · replace h := ifP hp84 h
          refine J.guardN rfl rfl rfl ?_
          refine J.guardN rfl rfl rfl ?_
          refine J.quiet (Y.pickT rfl rfl) rfl ?_
          refine J.quiet (Y.move rfl) rfl ?_
          refine J.guardN rfl rfl rfl ?_
          refine J.guardN rfl rfl rfl ?_
          refine J.quiet (Y.pickT rfl rfl) rfl ?_
          refine J.done ?_
          refine J.thenN ?_
          exact J.meetI (true) (()) h (by repeat (first | exact SubF.nil | refine SubF.cons rfl ?_)) (SubM.refl _) (LentAll.refl _ _)
        · replace h := ifN hp84 h
          refine J.guardY rfl (Y.move rfl) rfl ?_
          refine J.guardY rfl (Y.lss rfl rfl) rfl ?_
          refine J.quiet (Y.pickF rfl rfl) rfl ?_
          refine J.quiet (Y.move rfl) rfl ?_
          refine J.guardD (by exact rfl) (by exact rfl) (fun hp85 => ?_) (fun hp85 => ?_)
          · replace h := ifP hp85 h
            refine J.guardN rfl rfl rfl ?_
            refine J.guardN rfl rfl rfl ?_
            refine J.quiet (Y.pickT rfl rfl) rfl ?_
            refine J.done ?_
            refine J.thenN ?_
            exact J.meetI (true) (()) h (by repeat (first | exact SubF.nil | refine SubF.cons rfl ?_)) (SubM.refl _) (LentAll.refl _ _)
          · replace h := ifN hp85 h
            refine J.guardY rfl (Y.move rfl) rfl ?_
            refine J.guardY rfl (Y.gtr rfl rfl) rfl ?_
            refine J.quiet (Y.pickF rfl rfl) rfl ?_
            refine J.done ?_
            refine J.thenN ?_
            exact J.meetI (decide ((15 : Int) < p3)) (()) h (by repeat (first | exact SubF.nil | refine SubF.cons rfl ?_)) (SubM.refl _) (LentAll.refl _ _)
    · clear h
      intro a12 b13 h
      unfold family_Connect_k1 at h
      refine J.cond (by exact rfl) (fun hp14 => ?_) (fun hp14 => ?_)
      · replace h := ifP hp14 h
        refine J.seq ?_
        refine J.region ?_
        refine J.quiet (Y.bld0 (r := Value.agg #[Value.slice none 0 0, Value.slice none 0 0]) (by intro w; simp [Instr.build, Instr.fill, cells_intV, cells_boolV, cells_sliceV, cells_ptrV, cells_strV, cells_funcV, cells_agg])) rfl ?_
        refine J.storeAll 1 (vs := [Value.slice none 0 0, Value.slice none 0 0]) rfl rfl rfl rfl rfl rfl ?_
        refine J.quiet (Y.assign rfl) rfl ?_
        refine J.done ?_
        refine J.thenN ?_
        refine J.ret ?_
        refine J.thenR ?_
        refine J.stp (Stp.nilAr EI64) ?_
        refine J.stp (Stp.nilAr Enc.raw) (J.stp (Stp.rowsNil EI64I64p) ?_)
        obtain rfl := Option.some.inj h
        exact J.retG2 ((Value.slice none 0 0), (Value.slice none 0 0), ([] : List Value)) rfl rfl (RV.cell 4 rfl rfl rfl rfl) (RV.tmp rfl) (SubM.cons 2 rfl (SubM.cons 1 rfl (SubM.cons 0 rfl (SubM.nil)))) LentAll.nil
      · replace h := ifBN hp14 h
        refine J.skip ?_
        refine J.thenN ?_
        refine J.seq ?_
        refine J.midI (A := (List (List (Int × Int))) × List (Int)) (B := Nat × Value × Value × List Value) (fun a21 => family_Connect_k2 fuel p3 r7 a21 = some r) (fun a21 b22 => [(3, Value.int .i64 (p3)), (8, Value.pointer (some ⟨b2, 0, none⟩)), (10, Value.pointer (some ⟨b10, 0, none⟩)), (12, Value.pointer (some ⟨b22.1, 0, none⟩))]) (fun a21 b22 => [Blk b22.1 [b22.2.1, b22.2.2.1] 26, Ar Enc.raw b22.2.2.1 b22.2.2.2, Rws EI64I64p b22.2.2.2 a21.1, Ar EI64 b22.2.1 a21.2, Blk b10 [Value.int .i64 (r7.1.1.1), Value.int .i64 (r7.1.1.2), Value.int .i64 (r7.1.2.1), Value.int .i64 (r7.1.2.2)] 76, Blk b2 [Value.slice none 0 0, Value.slice none 0 0] 26]) (fun a21 b22 => [Sl RI64 v0 p0.1, S2 RI64I64p v1 z2 p0.2]) ?_ ?_
        · replace h := bnd h; obtain ⟨r48, hr49, h⟩ := h
          replace h := bnd h; obtain ⟨r51, hr52, h⟩ := h
          refine JR.orders [0, 1, 3, 0, 8, 31, 63, 0, 255] 8 [[0, 1, 3, 4, 2, 5, 6, 7, 8], [0, 1, 3, 4, 2, 7, 5, 6, 8], [0, 1, 3, 4, 7, 2, 5, 6, 8]] mixedOrders (by decide +kernel) (by decide +kernel) ?_
          intro o ho
          simp only [List.mem_cons, List.not_mem_nil, or_false] at ho
          rcases ho with rfl | rfl | rfl
          · refine JR.qt rfl (SubM.nil) (SubL.nil) (Y.fieldB rfl rfl rfl rfl rfl) HistOk.z ?_
            refine JR.qt rfl (SubM.cons 2 rfl (SubM.nil)) (SubL.nil) (Y.loadB 0 rfl rfl rfl rfl rfl) HistOk.z ?_
            refine JR.qt rfl (SubM.nil) (SubL.nil) (Y.fieldB rfl rfl rfl rfl rfl) HistOk.z ?_
            refine JR.qt rfl (SubM.cons 2 rfl (SubM.nil)) (SubL.nil) (Y.loadB 0 rfl rfl rfl rfl rfl) HistOk.z ?_
            refine JR.loud rfl rfl rfl (Loud.callL body88 (t_slices_Clone fuel v0 r48 hr49) rfl (LentAll.cons (Lent.fact 0 rfl) (LentAll.nil)) (fun _ _ => rfl)) rfl (fun x59 => (BsOk.h (SubM.cons 3 rfl (SubM.nil)) (SubL.nil) (BsOk.h (SubM.nil) (SubL.nil) (BsOk.b rfl (BsOk.b rfl BsOk.z))))) fun x59 => ?_
            refine JR.loud rfl rfl rfl (Loud.callL body89 (t_family_copied fuel v1 z2 r51 hr52) rfl (LentAll.cons (Lent.fact 1 rfl) (LentAll.nil)) (fun _ _ => rfl)) rfl (fun x60 => (BsOk.b rfl (BsOk.b rfl (BsOk.b rfl (BsOk.b rfl BsOk.z))))) fun x60 => ?_
            refine JR.know (Know.one ((Lent.ar (Lent.res 2 rfl) FI64))) fun ho61 => ?_
            refine JR.know (Know.one (Lent.sl (Lent.rows (i := 0) (j := 1) rfl rfl FI64I64p))) fun ho62 => ?_
            refine JR.qt rfl (SubM.nil) (SubL.nil) (Y.bld2 (r := Value.agg #[x59, x60.1]) rfl rfl (by intro w; simp [Instr.build, Instr.fill, cells_intV, cells_boolV, cells_sliceV, cells_ptrV, cells_strV, cells_funcV, cells_agg, one_cells ho61, one_cells ho62])) (HistOk.b rfl (HistOk.b rfl HistOk.z)) ?_
            refine JR.loud rfl rfl rfl (Loud.alloc (cs := [Value.slice none 0 0, Value.slice none 0 0]) rfl rfl) rfl (fun b63 => (BsOk.h (SubM.nil) (SubL.nil) (BsOk.h (SubM.cons 6 rfl (SubM.nil)) (SubL.nil) (BsOk.h (SubM.nil) (SubL.nil) (BsOk.h (SubM.cons 6 rfl (SubM.nil)) (SubL.nil) (BsOk.h (SubM.nil) (SubL.nil) BsOk.z)))))) fun b63 => ?_
            refine JR.tailD 8 rfl rfl ?_
            refine J.know (Know.one ((Lent.ar (Lent.res 3 rfl) FI64))) fun ho64 => ?_
            refine J.know (Know.one (Lent.sl (Lent.rows (i := 1) (j := 2) rfl rfl FI64I64p))) fun ho65 => ?_
            refine J.storeAll 0 (vs := [x59, x60.1]) rfl rfl (all1 ho64 (all1 ho65 rfl)) rfl rfl rfl ?_
            refine J.done ?_
            refine J.thenN ?_
            exact J.meetI (r51, r48) (b63, x59, x60.1, x60.2) h (by repeat (first | exact SubF.nil | refine SubF.cons rfl ?_)) (SubM.cons 0 rfl (SubM.cons 0 rfl (SubM.cons 0 rfl (SubM.cons 0 rfl (SubM.cons 0 rfl (SubM.cons 0 rfl (SubM.nil))))))) (LentAll.refl _ _)
          · refine JR.qt rfl (SubM.nil) (SubL.nil) (Y.fieldB rfl rfl rfl rfl rfl) HistOk.z ?_
            refine JR.qt rfl (SubM.cons 2 rfl (SubM.nil)) (SubL.nil) (Y.loadB 0 rfl rfl rfl rfl rfl) HistOk.z ?_
            refine JR.qt rfl (SubM.nil) (SubL.nil) (Y.fieldB rfl rfl rfl rfl rfl) HistOk.z ?_
            refine JR.qt rfl (SubM.cons 2 rfl (SubM.nil)) (SubL.nil) (Y.loadB 0 rfl rfl rfl rfl rfl) HistOk.z ?_
            refine JR.loud rfl rfl rfl (Loud.callL body88 (t_slices_Clone fuel v0 r48 hr49) rfl (LentAll.cons (Lent.fact 0 rfl) (LentAll.nil)) (fun _ _ => rfl)) rfl (fun x66 => (BsOk.h (SubM.cons 3 rfl (SubM.nil)) (SubL.nil) (BsOk.h (SubM.nil) (SubL.nil) (BsOk.b rfl (BsOk.b rfl BsOk.z))))) fun x66 => ?_
            refine JR.loud rfl rfl rfl (Loud.alloc (cs := [Value.slice none 0 0, Value.slice none 0 0]) rfl rfl) rfl (fun b67 => (BsOk.h (SubM.cons 4 rfl (SubM.nil)) (SubL.nil) (BsOk.h (SubM.nil) (SubL.nil) (BsOk.h (SubM.cons 4 rfl (SubM.nil)) (SubL.nil) (BsOk.h (SubM.nil) (SubL.nil) BsOk.z))))) fun b67 => ?_
            refine JR.loud rfl rfl rfl (Loud.callL body89 (t_family_copied fuel v1 z2 r51 hr52) rfl (LentAll.cons (Lent.fact 1 rfl) (LentAll.nil)) (fun _ _ => rfl)) rfl (fun x68 => (BsOk.b rfl (BsOk.b rfl (BsOk.b rfl (BsOk.b rfl BsOk.z))))) fun x68 => ?_
            refine JR.know (Know.one ((Lent.ar (Lent.res 3 rfl) FI64))) fun ho69 => ?_
            refine JR.know (Know.one (Lent.sl (Lent.rows (i := 0) (j := 1) rfl rfl FI64I64p))) fun ho70 => ?_
            refine JR.qt rfl (SubM.nil) (SubL.nil) (Y.bld2 (r := Value.agg #[x66, x68.1]) rfl rfl (by intro w; simp [Instr.build, Instr.fill, cells_intV, cells_boolV, cells_sliceV, cells_ptrV, cells_strV, cells_funcV, cells_agg, one_cells ho69, one_cells ho70])) (HistOk.b rfl (HistOk.h (SubM.nil) (SubL.nil) (HistOk.b rfl HistOk.z))) ?_
            refine JR.tailD 8 rfl rfl ?_
            refine J.know (Know.one ((Lent.ar (Lent.res 3 rfl) FI64))) fun ho71 => ?_
            refine J.know (Know.one (Lent.sl (Lent.rows (i := 0) (j := 1) rfl rfl FI64I64p))) fun ho72 => ?_
            refine J.storeAll 2 (vs := [x66, x68.1]) rfl rfl (all1 ho71 (all1 ho72 rfl)) rfl rfl rfl ?_
            refine J.done ?_
            refine J.thenN ?_
            exact J.meetI (r51, r48) (b67, x66, x68.1, x68.2) h (by repeat (first | exact SubF.nil | refine SubF.cons rfl ?_)) (SubM.cons 2 rfl (SubM.cons 0 rfl (SubM.cons 0 rfl (SubM.cons 0 rfl (SubM.cons 0 rfl (SubM.cons 0 rfl (SubM.nil))))))) (LentAll.refl _ _)
          · refine JR.qt rfl (SubM.nil) (SubL.nil) (Y.fieldB rfl rfl rfl rfl rfl) HistOk.z ?_
            refine JR.qt rfl (SubM.cons 2 rfl (SubM.nil)) (SubL.nil) (Y.loadB 0 rfl rfl rfl rfl rfl) HistOk.z ?_
            refine JR.qt rfl (SubM.nil) (SubL.nil) (Y.fieldB rfl rfl rfl rfl rfl) HistOk.z ?_
            refine JR.qt rfl (SubM.cons 2 rfl (SubM.nil)) (SubL.nil) (Y.loadB 0 rfl rfl rfl rfl rfl) HistOk.z ?_
            refine JR.loud rfl rfl rfl (Loud.alloc (cs := [Value.slice none 0 0, Value.slice none 0 0]) rfl rfl) rfl (fun b73 => (BsOk.h (SubM.cons 3 rfl (SubM.nil)) (SubL.nil) (BsOk.h (SubM.nil) (SubL.nil) (BsOk.h (SubM.cons 3 rfl (SubM.nil)) (SubL.nil) (BsOk.h (SubM.nil) (SubL.nil) BsOk.z))))) fun b73 => ?_
            refine JR.loud rfl rfl rfl (Loud.callL body88 (t_slices_Clone fuel v0 r48 hr49) rfl (LentAll.cons (Lent.fact 0 rfl) (LentAll.nil)) (fun _ _ => rfl)) rfl (fun x74 => (BsOk.h (SubM.cons 4 rfl (SubM.nil)) (SubL.nil) (BsOk.h (SubM.nil) (SubL.nil) (BsOk.b rfl (BsOk.b rfl BsOk.z))))) fun x74 => ?_
            refine JR.loud rfl rfl rfl (Loud.callL body89 (t_family_copied fuel v1 z2 r51 hr52) rfl (LentAll.cons (Lent.fact 1 rfl) (LentAll.nil)) (fun _ _ => rfl)) rfl (fun x75 => (BsOk.b rfl (BsOk.b rfl (BsOk.b rfl (BsOk.b rfl BsOk.z))))) fun x75 => ?_
            refine JR.know (Know.one ((Lent.ar (Lent.res 2 rfl) FI64))) fun ho76 => ?_
            refine JR.know (Know.one (Lent.sl (Lent.rows (i := 0) (j := 1) rfl rfl FI64I64p))) fun ho77 => ?_
            refine JR.qt rfl (SubM.nil) (SubL.nil) (Y.bld2 (r := Value.agg #[x74, x75.1]) rfl rfl (by intro w; simp [Instr.build, Instr.fill, cells_intV, cells_boolV, cells_sliceV, cells_ptrV, cells_strV, cells_funcV, cells_agg, one_cells ho76, one_cells ho77])) (HistOk.b rfl (HistOk.b rfl (HistOk.h (SubM.nil) (SubL.nil) HistOk.z))) ?_
            refine JR.tailD 8 rfl rfl ?_
            refine J.know (Know.one ((Lent.ar (Lent.res 2 rfl) FI64))) fun ho78 => ?_
            refine J.know (Know.one (Lent.sl (Lent.rows (i := 0) (j := 1) rfl rfl FI64I64p))) fun ho79 => ?_
            refine J.storeAll 3 (vs := [x74, x75.1]) rfl rfl (all1 ho78 (all1 ho79 rfl)) rfl rfl rfl ?_
            refine J.done ?_
            refine J.thenN ?_
            exact J.meetI (r51, r48) (b73, x74, x75.1, x75.2) h (by repeat (first | exact SubF.nil | refine SubF.cons rfl ?_)) (SubM.cons 3 rfl (SubM.cons 0 rfl (SubM.cons 0 rfl (SubM.cons 0 rfl (SubM.cons 0 rfl (SubM.cons 0 rfl (SubM.nil))))))) (LentAll.refl _ _)
        · clear h
          intro a21 b22 h
          unfold family_Connect_k2 at h
          refine J.seq ?_
          refine J.midI (A := (List (List (Int × Int)))) (B := List Value) (fun a25 => family_Connect_k3 a21 a25 = some r) (fun a25 b26 => [(8, Value.pointer (some ⟨b2, 0, none⟩)), (12, Value.pointer (some ⟨b22.1, 0, none⟩))]) (fun a25 b26 => [Blk b22.1 [b22.2.1, b22.2.2.1] 26, Ar Enc.raw b22.2.2.1 b26, Rws EI64I64p b26 a25, Ar EI64 b22.2.1 a21.2, Blk b2 [Value.slice none 0 0, Value.slice none 0 0] 26]) (fun a25 b26 => [Sl RI64 v0 p0.1, S2 RI64I64p v1 z2 p0.2]) ?_ ?_
          · refine J.seq ?_
            refine J.region ?_
            refine J.quiet (Y.loadBAll 4 rfl rfl rfl rfl) rfl ?_
            refine J.quiet (Y.move rfl) rfl ?_
            refine J.done ?_
            refine J.thenN ?_
            refine J.block ?_
            refine J.loopI (A := Int × (List (List (Int × Int)))) (B := List Value) (family_Connect_s1 p3 r7 a21) (fun a33 b34 => [(3, Value.int .i64 (p3)), (8, Value.pointer (some ⟨b2, 0, none⟩)), (12, Value.pointer (some ⟨b22.1, 0, none⟩)), (51, Value.agg #[Value.int .i64 (r7.1.1.1), Value.int .i64 (r7.1.1.2), Value.int .i64 (r7.1.2.1), Value.int .i64 (r7.1.2.2)]), (52, Value.int .i64 (a33.1))]) (fun a33 b34 => [Blk b22.1 [b22.2.1, b22.2.2.1] 26, Ar Enc.raw b22.2.2.1 b34, Rws EI64I64p b34 a33.2, Ar EI64 b22.2.1 a21.2, Blk b2 [Value.slice none 0 0, Value.slice none 0 0] 26]) (fun a33 b34 => [Sl RI64 v0 p0.1, S2 RI64I64p v1 z2 p0.2]) ((0 : Int), a21.1) (b22.2.2.2) h (by repeat (first | exact SubF.nil | refine SubF.cons rfl ?_)) (SubM.cons 0 rfl (SubM.cons 0 rfl (SubM.cons 0 rfl (SubM.cons 0 rfl (SubM.cons 1 rfl (SubM.nil)))))) (LentAll.refl _ _) ?_
            clear h
            intro k35 a33 b34 h
            unfold family_Connect_s1 at h
            refine J.seq ?_
            refine J.region ?_
            refine J.quiet (Y.lss rfl rfl) rfl ?_
            refine J.done ?_
            refine J.thenN ?_
            refine J.seq ?_
            refine J.condD (by exact rfl) (fun hp36 => ?_) (fun hp36 => ?_)
            · replace h := ifP hp36 h
              refine J.skip ?_
              refine J.thenN ?_
              refine J.seq ?_
              refine J.block ?_
              refine J.seq ?_
              refine J.region ?_
              replace h := ck_some h; obtain ⟨hc37, h⟩ := h
              refine J.quiet (Y.indexV (cs := [Value.int .i64 (r7.1.1.1), Value.int .i64 (r7.1.1.2), Value.int .i64 (r7.1.2.1), Value.int .i64 (r7.1.2.2)]) (fun j38 => Value.agg #[Value.int .i64 (at' [r7.1.1.1, r7.1.2.1] ((j38 : Nat) : Int)), Value.int .i64 (at' [r7.1.1.2, r7.1.2.2] ((j38 : Nat) : Int))]) rfl rfl rfl rfl hc37 (by intro j hj; match j, hj with | 0, _ => rfl | 1, _ => rfl)) rfl ?_
              refine J.loud (Loud.alloc (cs := [Value.int .i64 (0 : Int), Value.int .i64 (0 : Int)]) rfl rfl) rfl fun b39 => ?_
              refine J.storeAll 0 (vs := [Value.int .i64 (at' [r7.1.1.1, r7.1.2.1] ((Int.toNat a33.1 : Nat) : Int)), Value.int .i64 (at' [r7.1.1.2, r7.1.2.2] ((Int.toNat a33.1 : Nat) : Int))]) rfl rfl rfl rfl rfl rfl ?_
              refine J.done ?_
              refine J.thenN ?_
              refine JR.start [0, 1, 0, 4, 0, 16, 0, 64, 240, 496, 0, 1024, 0, 7168, 15360, 32752, 65535, 131071] 16 mixedOrders (by decide +kernel) ?_
              refine JR.open (by exact rfl) ?_
              refine JR.qt rfl (SubM.nil) (SubL.nil) (Y.fieldB rfl rfl rfl rfl rfl) HistOk.z ?_
              refine JR.qt rfl (SubM.cons 1 rfl (SubM.nil)) (SubL.nil) (Y.loadB 0 rfl rfl rfl rfl rfl) HistOk.z ?_
              refine JR.qt rfl (SubM.nil) (SubL.nil) (Y.indexArr (i := 0) rfl rfl rfl rfl rfl (by decide)) HistOk.z ?_
              refine JR.qt rfl (SubM.cons 0 rfl (SubM.nil)) (SubL.nil) (Y.loadB 0 rfl rfl rfl rfl rfl) HistOk.z ?_
              refine JR.qt rfl (SubM.nil) (SubL.nil) (Y.fieldB rfl rfl rfl rfl rfl) HistOk.z ?_
              refine JR.qt rfl (SubM.cons 1 rfl (SubM.nil)) (SubL.nil) (Y.loadB 0 rfl rfl rfl rfl rfl) HistOk.z ?_
              refine JR.qt rfl (SubM.nil) (SubL.nil) (Y.indexArr (i := 0) rfl rfl rfl rfl rfl (by decide)) HistOk.z ?_
              refine JR.qt rfl (SubM.cons 0 rfl (SubM.nil)) (SubL.nil) (Y.loadB 0 rfl rfl rfl rfl rfl) HistOk.z ?_
              replace h := ck_some h; obtain ⟨hc40, h⟩ := h
              refine JR.qt rfl (SubM.cons 2 rfl (SubM.cons 2 rfl (SubM.nil))) (SubL.nil) (Y.indexN rfl rfl (Lent.rows (i := 0) (j := 1) rfl rfl FI64I64p) rfl rfl hc40) HistOk.z ?_
              refine JR.know (Know.rws 3 rfl) fun hl41 => ?_
              refine JR.qt rfl (SubM.cons 2 rfl (SubM.nil)) (SubL.nil) (Y.loadRaw 0 rfl rfl hl41 rfl rfl hc40) HistOk.z ?_
              refine JR.qt rfl (SubM.nil) (SubL.nil) (Y.indexArr (i := 1) rfl rfl rfl rfl rfl (by decide)) HistOk.z ?_
              refine JR.qt rfl (SubM.cons 0 rfl (SubM.nil)) (SubL.nil) (Y.loadB 0 rfl rfl rfl rfl rfl) HistOk.z ?_
              refine JR.qt rfl (SubM.nil) (SubL.nil) (Y.move rfl) HistOk.z ?_
              refine JR.qt rfl (SubM.nil) (SubL.nil) (Y.bld2 (r := Value.agg #[Value.int .i64 (at' [r7.1.1.2, r7.1.2.2] ((Int.toNat a33.1 : Nat) : Int)), Value.int .i64 (p3)]) rfl rfl (by intro w; simp [Instr.build, Instr.fill, cells_intV, cells_boolV, cells_sliceV, cells_ptrV, cells_strV, cells_funcV, cells_agg])) HistOk.z ?_
              refine JR.loud rfl rfl rfl (Loud.buildS (e := EI64I64p) ([(((at' [r7.1.1.2, r7.1.2.2] ((Int.toNat a33.1 : Nat) : Int)), p3))]) [(0, Value.agg #[Value.int .i64 (at' [r7.1.1.2, r7.1.2.2] ((Int.toNat a33.1 : Nat) : Int)), Value.int .i64 (p3)])] rfl rfl rfl rfl (fill_1_2 (Value.int .i64 (at' [r7.1.1.2, r7.1.2.2] ((Int.toNat a33.1 : Nat) : Int))) (Value.int .i64 (p3))) rfl rfl rfl) rfl (fun u42 => (BsOk.b rfl (BsOk.b rfl (BsOk.b rfl (BsOk.b rfl (BsOk.h (SubM.cons 3 rfl (SubM.nil)) (SubL.nil) (BsOk.h (SubM.cons 3 rfl (SubM.cons 3 rfl (SubM.nil))) (SubL.nil) (BsOk.h (SubM.cons 1 rfl (SubM.nil)) (SubL.nil) (BsOk.h (SubM.nil) (SubL.nil) (BsOk.h (SubM.cons 2 rfl (SubM.nil)) (SubL.nil) (BsOk.h (SubM.nil) (SubL.nil) (BsOk.h (SubM.cons 1 rfl (SubM.nil)) (SubL.nil) (BsOk.h (SubM.nil) (SubL.nil) (BsOk.h (SubM.cons 2 rfl (SubM.nil)) (SubL.nil) (BsOk.h (SubM.nil) (SubL.nil) BsOk.z))))))))))))))) fun u42 => ?_
              replace h := ck_some h; obtain ⟨hc44, h⟩ := h
              refine JR.loud rfl rfl rfl (Loud.appendRowL 4 FI64I64p rfl rfl rfl (Lent.ar (Lent.res 0 rfl) FI64I64p) rfl rfl rfl rfl hc40 hc44 rfl) rfl (fun u43 => (BsOk.b rfl (BsOk.b rfl (BsOk.b rfl (BsOk.b rfl (BsOk.b rfl (BsOk.b rfl (BsOk.b rfl (BsOk.b rfl (BsOk.b rfl (BsOk.b rfl (BsOk.h (SubM.cons 1 rfl (SubM.nil)) (SubL.nil) (BsOk.h (SubM.nil) (SubL.nil) (BsOk.h (SubM.cons 2 rfl (SubM.nil)) (SubL.nil) (BsOk.h (SubM.nil) (SubL.nil) BsOk.z))))))))))))))) fun u43 => ?_
              refine JR.tailD 16 rfl rfl ?_
              replace h := ck_some h; obtain ⟨hc45, h⟩ := h
              refine J.know (Know.rws 4 rfl) fun hl46 => ?_
              refine J.quiet (Y.indexA 3 rfl rfl rfl rfl rfl hc45.1 (by have q1 := hc45.2; have q2 := hl46; simp only [List.length_set] at q1 q2; omega)) rfl ?_
              refine J.know (Know.oneRow 4 (k := (at' [r7.1.1.1, r7.1.2.1] ((Int.toNat a33.1 : Nat) : Int))) rfl ⟨hc45.1, by simpa using hc45.2⟩) fun ho47 => ?_
              refine J.storeRow 3 4 ⟨hc45.1, by simpa using hc45.2⟩ rfl rfl rfl rfl rfl (by simp) ho47 rfl ?_
              refine J.done ?_
              refine J.inN ?_
              refine J.thenN ?_
              refine J.region ?_
              refine J.quiet (Y.addW rfl rfl) rfl ?_
              refine J.quiet (Y.move rfl) rfl ?_
              refine J.done ?_
              refine J.thenN ?_
              exact J.againI ((wI .i64 (a33.1 + (1 : Int))), (List.set a33.2 (Int.toNat (at' [r7.1.1.1, r7.1.2.1] ((Int.toNat a33.1 : Nat) : Int))) ((at' a33.2 (at' [r7.1.1.1, r7.1.2.1] ((Int.toNat a33.1 : Nat) : Int))) ++ ([ ((at' [r7.1.1.2, r7.1.2.2] ((Int.toNat a33.1 : Nat) : Int)), p3)])))) (List.set b34 (Int.toNat (at' [r7.1.1.1, r7.1.2.1] ((Int.toNat a33.1 : Nat) : Int))) u43) h (by repeat (first | exact SubF.nil | refine SubF.cons rfl ?_)) (SubM.cons 2 rfl (SubM.cons 2 rfl (SubM.cons 2 rfl (SubM.cons 2 rfl (SubM.cons 2 rfl (SubM.nil)))))) (LentAll.refl _ _)
            · replace h := ifN hp36 h
              refine J.exit ?_
              refine J.thenX ?_
              refine J.thenX ?_
              refine J.inX ?_
              refine J.thenN ?_
              exact J.meetI (a33.2) (b34) h (by repeat (first | exact SubF.nil | refine SubF.cons rfl ?_)) (SubM.refl _) (LentAll.refl _ _)
          · clear h
            intro a25 b26 h
            unfold family_Connect_k3 at h
            refine J.seq ?_
            refine J.region ?_
            refine J.quiet (Y.loadBAll 0 rfl rfl rfl rfl) rfl ?_
            refine J.know (Know.one ((Lent.ar (Lent.res 3 rfl) FI64))) fun ho27 => ?_
            refine J.know (Know.one (Lent.sl (Lent.rows (i := 1) (j := 2) rfl rfl FI64I64p))) fun ho28 => ?_
            refine J.storeAll 4 (vs := [b22.2.1, b22.2.2.1]) rfl rfl (all1 ho27 (all1 ho28 rfl)) rfl rfl rfl ?_
            refine J.quiet (Y.assign rfl) rfl ?_
            refine J.done ?_
            refine J.thenN ?_
            refine J.ret ?_
            obtain rfl := Option.some.inj h
            exact J.retG2 (b22.2.1, b22.2.2.1, b26) rfl rfl (RV.cell 4 rfl rfl rfl rfl) (RV.tmp rfl) (SubM.cons 3 rfl (SubM.cons 1 rfl (SubM.cons 1 rfl (SubM.nil)))) LentAll.nil

end Go.Proofs.Ytemhmmcakmidkaa
end
section
set_option linter.unusedVariables false
set_option linter.unusedSimpArgs false
namespace Go.Proofs.Ytemhmmcakmidkaa
open Go.Sx
set_option linter.unusedVariables false
set_option linter.unusedSimpArgs false
def ref03_Connect_k1 (fuel : Nat) (p0 : List (Int) × (List (List (Int × Int)))) (p1 : Int) (p2 : Int) (p3 : Int) (a8 : Bool) : Option ((List (Int) × (List (List (Int × Int)))) × Int) :=
  if a8 = true then (some (((([] : List Int), ([] : List (List (Int × Int))))), (2 : Int))) else (Option.bind (m_ref03_Copy fuel ((p0.1, p0.2))) fun r11 => (ck (0 ≤ p1 ∧ p1 < (List.length r11.2 : Int)) (ck ((List.length (at' r11.2 p1) : Int) + (List.length ([ (p2, p3)]) : Int) ≤ 1099511627) (ck (0 ≤ p1 ∧ p1 < (List.length (List.set r11.2 (Int.toNat p1) ((at' r11.2 p1) ++ ([ (p2, p3)]))) : Int)) (ck (0 ≤ p2 ∧ p2 < (List.length (List.set r11.2 (Int.toNat p1) ((at' r11.2 p1) ++ ([ (p2, p3)]))) : Int)) (ck ((List.length (at' (List.set r11.2 (Int.toNat p1) ((at' r11.2 p1) ++ ([ (p2, p3)]))) p2) : Int) + (List.length ([ (p1, p3)]) : Int) ≤ 1099511627) (ck (0 ≤ p2 ∧ p2 < (List.length (List.set (List.set r11.2 (Int.toNat p1) ((at' r11.2 p1) ++ ([ (p2, p3)]))) (Int.toNat p2) ((at' (List.set r11.2 (Int.toNat p1) ((at' r11.2 p1) ++ ([ (p2, p3)]))) p2) ++ ([ (p1, p3)]))) : Int)) (some (((r11.1, (List.set (List.set r11.2 (Int.toNat p1) ((at' r11.2 p1) ++ ([ (p2, p3)]))) (Int.toNat p2) ((at' (List.set r11.2 (Int.toNat p1) ((at' r11.2 p1) ++ ([ (p2, p3)]))) p2) ++ ([ (p1, p3)]))))), (0 : Int))))))))))
def m_ref03_Connect (fuel : Nat) (p0 : List (Int) × (List (List (Int × Int)))) (p1 : Int) (p2 : Int) (p3 : Int) : Option ((List (Int) × (List (List (Int × Int)))) × Int) :=
  Option.bind (m_ref01_Valid fuel ((p0.1, p0.2))) fun r3 => (if (!r3) = true then (some (((([] : List Int), ([] : List (List (Int × Int))))), (1 : Int))) else (Option.bind (m_ref03_nodes fuel ((p0.1, p0.2)) p1 p2) fun r35 => (if (!r35) = true then (ref03_Connect_k1 fuel p0 p1 p2 p3 (true)) else (Option.bind (m_ref01_Port fuel ((p0.1, p0.2)) p1 p2) fun r39 => (if (0 : Int) ≤ r39 then (ref03_Connect_k1 fuel p0 p1 p2 p3 (true)) else (Option.bind (m_ref01_In fuel p3 (1 : Int) (15 : Int)) fun r43 => (ref03_Connect_k1 fuel p0 p1 p2 p3 ((!r43)))))))))

theorem body62 : HasBody Try.prog 62 := Try.call62

set_option maxHeartbeats 4000000 in
set_option maxRecDepth 20000 in
theorem t_ref03_Connect (fuel : Nat) {p0 : List (Int) × (List (List (Int × Int)))} {p1 : Int} {p2 : Int} {p3 : Int} (v0 : Value)  (v1 : Value)  (z2 : List (Value × List (Int × Int))) (r : (List (Int) × (List (List (Int × Int)))) × Int) (h : m_ref03_Connect fuel p0 p1 p2 p3 = some r) :
    Meets Try.prog 62 #[Value.agg #[v0, v1], Value.int .i64 (p1), Value.int .i64 (p2), Value.int .i64 (p3)] [Sl RI64 v0 p0.1, S2 RI64I64p v1 z2 p0.2] (fun x : Value × Value × List Value => Value.tuple #[Value.agg #[x.1, x.2.1], Value.int .i64 (r.2)]) (fun x l => Ar EI64 x.1 r.1.1 :: Ar Enc.raw x.2.1 x.2.2 :: Rws EI64I64p x.2.2 r.1.2 :: l) (fun _ l => l) := by
  refine Meets.of (vs := [Value.agg #[v0, v1], Value.int .i64 (p1), Value.int .i64 (p2), Value.int .i64 (p3)]) Try.func62 rfl Try.ntmps62 rfl fun c => ?_
  unfold m_ref03_Connect at h
  refine J.seq ?_
  refine J.region ?_
  refine J.loud (Loud.box (cs := [v0, v1]) rfl rfl) rfl fun b1 => ?_
  refine J.loud (Loud.alloc (cs := [Value.slice none 0 0, Value.slice none 0 0]) rfl rfl) rfl fun b2 => ?_
  refine J.quiet (Y.assign rfl) rfl ?_
  refine J.done ?_
  refine J.thenN ?_
  refine J.seq ?_
  refine J.seq ?_
  refine J.region ?_
  refine J.quiet (Y.loadBAll 1 rfl rfl rfl rfl) rfl ?_
  replace h := bnd h; obtain ⟨r3, hr4, h⟩ := h
  refine J.loud (Loud.callL body51 (t_ref01_Valid fuel v0 v1 z2 r3 hr4) rfl (LentAll.cons (Lent.fact 0 rfl) (LentAll.cons (Lent.fact 1 rfl) (LentAll.nil))) (fun _ _ => rfl)) rfl fun x5 => ?_
  refine J.quiet (Y.not rfl) rfl ?_
  refine J.done ?_
  refine J.thenN ?_
  refine J.cond (by exact rfl) (fun hp6 => ?_) (fun hp6 => ?_)
  · replace h := ifP hp6 h
    refine J.seq ?_
    refine J.region ?_
    refine J.quiet (Y.bld0 (r := Value.agg #[Value.slice none 0 0, Value.slice none 0 0]) (by intro w; simp [Instr.build, Instr.fill, cells_intV, cells_boolV, cells_sliceV, cells_ptrV, cells_strV, cells_funcV, cells_agg])) rfl ?_
    refine J.storeAll 0 (vs := [Value.slice none 0 0, Value.slice none 0 0]) rfl rfl rfl rfl rfl rfl ?_
    refine J.quiet (Y.assign rfl) rfl ?_
    refine J.done ?_
    refine J.thenN ?_
    refine J.ret ?_
    refine J.thenR ?_
    refine J.stp (Stp.nilAr EI64) ?_
    refine J.stp (Stp.nilAr Enc.raw) (J.stp (Stp.rowsNil EI64I64p) ?_)
    obtain rfl := Option.some.inj h
    exact J.retG2 ((Value.slice none 0 0), (Value.slice none 0 0), ([] : List Value)) rfl rfl (RV.cell 3 rfl rfl rfl rfl) (RV.tmp rfl) (SubM.cons 2 rfl (SubM.cons 1 rfl (SubM.cons 0 rfl (SubM.nil)))) LentAll.nil
  · replace h := ifBN hp6 h
    refine J.skip ?_
    refine J.thenN ?_
    refine J.seq ?_
    refine J.seq ?_
    refine J.midI (A := Bool) (B := Unit) (fun a8 => ref03_Connect_k1 fuel p0 p1 p2 p3 a8 = some r) (fun a8 b9 => [(1, Value.int .i64 (p1)), (2, Value.int .i64 (p2)), (3, Value.int .i64 (p3)), (4, Value.pointer (some ⟨b1, 0, none⟩)), (8, Value.pointer (some ⟨b2, 0, none⟩)), (31, Value.bool (a8))]) (fun a8 b9 => [Blk b2 [Value.slice none 0 0, Value.slice none 0 0] 26, Blk b1 [v0, v1] 26]) (fun a8 b9 => [Sl RI64 v0 p0.1, S2 RI64I64p v1 z2 p0.2]) ?_ ?_
    · refine J.region ?_
      refine J.quiet (Y.loadBAll 1 rfl rfl rfl rfl) rfl ?_
      refine J.quiet (Y.move rfl) rfl ?_
      refine J.quiet (Y.move rfl) rfl ?_
      replace h := bnd h; obtain ⟨r35, hr36, h⟩ := h
      refine J.loud (Loud.callL body96 (t_ref03_nodes fuel v0 v1 z2 r35 hr36) rfl (LentAll.cons (Lent.fact 0 rfl) (LentAll.cons (Lent.fact 1 rfl) (LentAll.nil))) (fun _ _ => rfl)) rfl fun x37 => ?_
      refine J.quiet (Y.not rfl) rfl ?_
      refine J.quiet (Y.move rfl) rfl ?_
      refine J.guard (by exact rfl) (by exact rfl) (fun hp38 => ?_) (fun hp38 => ?_)
      · replace h := ifP hp38 h
        refine J.guardN rfl rfl rfl ?_
        refine J.guardN rfl rfl rfl ?_
        refine J.guardN rfl rfl rfl ?_
        refine J.guardN rfl rfl rfl ?_
        refine J.guardN rfl rfl rfl ?_
        refine J.quiet (Y.pickT rfl rfl) rfl ?_
        refine J.quiet (Y.move rfl) rfl ?_
        refine J.guardN rfl rfl rfl ?_
        refine J.guardN rfl rfl rfl ?_
        refine J.guardN rfl rfl rfl ?_
        refine J.quiet (Y.pickT rfl rfl) rfl ?_
        refine J.done ?_
        refine J.thenN ?_
        exact J.meetI (true) (()) h (by repeat (first | exact SubF.nil | refine SubF.cons rfl ?_)) (SubM.refl _) (LentAll.refl _ _)
      · replace h := ifBN hp38 h
        refine J.guardY rfl (Y.loadBAll 1 rfl rfl rfl rfl) rfl ?_
        refine J.guardY rfl (Y.move rfl) rfl ?_
        refine J.guardY rfl (Y.move rfl) rfl ?_
        replace h := bnd h; obtain ⟨r39, hr40, h⟩ := h
        refine J.loudG rfl (Loud.callL body92 (t_ref01_Port fuel v0 v1 z2 r39 hr40) rfl (LentAll.cons (Lent.fact 0 rfl) (LentAll.cons (Lent.fact 1 rfl) (LentAll.nil))) (fun _ _ => rfl)) rfl fun x41 => ?_
        refine J.guardY rfl (Y.geq rfl rfl) rfl ?_
        refine J.quiet (Y.pickF rfl rfl) rfl ?_
        refine J.quiet (Y.move rfl) rfl ?_
        refine J.guardD (by exact rfl) (by exact rfl) (fun hp42 => ?_) (fun hp42 => ?_)
        · replace h := ifP hp42 h
          refine J.guardN rfl rfl rfl ?_
          refine J.guardN rfl rfl rfl ?_
          refine J.guardN rfl rfl rfl ?_
          refine J.quiet (Y.pickT rfl rfl) rfl ?_
          refine J.done ?_
          refine J.thenN ?_
          exact J.meetI (true) (()) h (by repeat (first | exact SubF.nil | refine SubF.cons rfl ?_)) (SubM.refl _) (LentAll.refl _ _)
        · replace h := ifN hp42 h
          refine J.guardY rfl (Y.move rfl) rfl ?_
          replace h := bnd h; obtain ⟨r43, hr44, h⟩ := h
          refine J.loudG rfl (Loud.callL body72 (t_ref01_In fuel  r43 hr44) rfl (LentAll.nil) (fun _ _ => rfl)) rfl fun x45 => ?_
          refine J.guardY rfl (Y.not rfl) rfl ?_
          refine J.quiet (Y.pickF rfl rfl) rfl ?_
          refine J.done ?_
          refine J.thenN ?_
          exact J.meetI ((!r43)) (()) h (by repeat (first | exact SubF.nil | refine SubF.cons rfl ?_)) (SubM.refl _) (LentAll.refl _ _)
    · clear h
      intro a8 b9 h
      unfold ref03_Connect_k1 at h
      refine J.cond (by exact rfl) (fun hp10 => ?_) (fun hp10 => ?_)
      · replace h := ifP hp10 h
        refine J.seq ?_
        refine J.region ?_
        refine J.quiet (Y.bld0 (r := Value.agg #[Value.slice none 0 0, Value.slice none 0 0]) (by intro w; simp [Instr.build, Instr.fill, cells_intV, cells_boolV, cells_sliceV, cells_ptrV, cells_strV, cells_funcV, cells_agg])) rfl ?_
        refine J.storeAll 0 (vs := [Value.slice none 0 0, Value.slice none 0 0]) rfl rfl rfl rfl rfl rfl ?_
        refine J.quiet (Y.assign rfl) rfl ?_
        refine J.done ?_
        refine J.thenN ?_
        refine J.ret ?_
        refine J.thenR ?_
        refine J.stp (Stp.nilAr EI64) ?_
        refine J.stp (Stp.nilAr Enc.raw) (J.stp (Stp.rowsNil EI64I64p) ?_)
        obtain rfl := Option.some.inj h
        exact J.retG2 ((Value.slice none 0 0), (Value.slice none 0 0), ([] : List Value)) rfl rfl (RV.cell 3 rfl rfl rfl rfl) (RV.tmp rfl) (SubM.cons 2 rfl (SubM.cons 1 rfl (SubM.cons 0 rfl (SubM.nil)))) LentAll.nil
      · replace h := ifBN hp10 h
        refine J.skip ?_
        refine J.thenN ?_
        refine J.seq ?_
        refine J.region ?_
        refine J.quiet (Y.loadBAll 1 rfl rfl rfl rfl) rfl ?_
        replace h := bnd h; obtain ⟨r11, hr12, h⟩ := h
        refine J.loud (Loud.callL body90 (t_ref03_Copy fuel v0 v1 z2 r11 hr12) rfl (LentAll.cons (Lent.fact 0 rfl) (LentAll.cons (Lent.fact 1 rfl) (LentAll.nil))) (fun _ _ => rfl)) rfl fun x13 => ?_
        refine J.loud (Loud.alloc (cs := [Value.slice none 0 0, Value.slice none 0 0]) rfl rfl) rfl fun b14 => ?_
        refine J.know (Know.one ((Lent.ar (Lent.res 1 rfl) FI64))) fun ho15 => ?_
        refine J.know (Know.one (Lent.sl (Lent.rows (i := 2) (j := 3) rfl rfl FI64I64p))) fun ho16 => ?_
        refine J.storeAll 0 (vs := [x13.1, x13.2.1]) rfl rfl (all1 ho15 (all1 ho16 rfl)) rfl rfl rfl ?_
        refine J.done ?_
        refine J.thenN ?_
        refine J.seq ?_
        refine JR.start [0, 1, 0, 0, 8, 0, 56, 120, 0, 0, 768, 1792, 4088, 8191, 16383] 13 mixedOrders (by decide +kernel) ?_
        refine JR.open (by exact rfl) ?_
        refine JR.qt rfl (SubM.nil) (SubL.nil) (Y.fieldB rfl rfl rfl rfl rfl) HistOk.z ?_
        refine JR.qt rfl (SubM.cons 0 rfl (SubM.nil)) (SubL.nil) (Y.loadB 0 rfl rfl rfl rfl rfl) HistOk.z ?_
        refine JR.qt rfl (SubM.nil) (SubL.nil) (Y.move rfl) HistOk.z ?_
        refine JR.qt rfl (SubM.nil) (SubL.nil) (Y.fieldB rfl rfl rfl rfl rfl) HistOk.z ?_
        refine JR.qt rfl (SubM.cons 0 rfl (SubM.nil)) (SubL.nil) (Y.loadB 0 rfl rfl rfl rfl rfl) HistOk.z ?_
        refine JR.qt rfl (SubM.nil) (SubL.nil) (Y.move rfl) HistOk.z ?_
        replace h := ck_some h; obtain ⟨hc17, h⟩ := h
        refine JR.qt rfl (SubM.cons 2 rfl (SubM.cons 2 rfl (SubM.nil))) (SubL.nil) (Y.indexN rfl rfl (Lent.rows (i := 0) (j := 1) rfl rfl FI64I64p) rfl rfl hc17) HistOk.z ?_
        refine JR.know (Know.rws 3 rfl) fun hl18 => ?_
        refine JR.qt rfl (SubM.cons 2 rfl (SubM.nil)) (SubL.nil) (Y.loadRaw 0 rfl rfl hl18 rfl rfl hc17) HistOk.z ?_
        refine JR.qt rfl (SubM.nil) (SubL.nil) (Y.move rfl) HistOk.z ?_
        refine JR.qt rfl (SubM.nil) (SubL.nil) (Y.move rfl) HistOk.z ?_
        refine JR.qt rfl (SubM.nil) (SubL.nil) (Y.bld2 (r := Value.agg #[Value.int .i64 (p2), Value.int .i64 (p3)]) rfl rfl (by intro w; simp [Instr.build, Instr.fill, cells_intV, cells_boolV, cells_sliceV, cells_ptrV, cells_strV, cells_funcV, cells_agg])) HistOk.z ?_
        refine JR.loud rfl rfl rfl (Loud.buildS (e := EI64I64p) ([((p2, p3))]) [(0, Value.agg #[Value.int .i64 (p2), Value.int .i64 (p3)])] rfl rfl rfl rfl (fill_1_2 (Value.int .i64 (p2)) (Value.int .i64 (p3))) rfl rfl rfl) rfl (fun u19 => (BsOk.b rfl (BsOk.b rfl (BsOk.b rfl (BsOk.h (SubM.cons 3 rfl (SubM.nil)) (SubL.nil) (BsOk.h (SubM.cons 3 rfl (SubM.cons 3 rfl (SubM.nil))) (SubL.nil) (BsOk.h (SubM.nil) (SubL.nil) (BsOk.h (SubM.cons 1 rfl (SubM.nil)) (SubL.nil) (BsOk.h (SubM.nil) (SubL.nil) (BsOk.h (SubM.nil) (SubL.nil) (BsOk.h (SubM.cons 1 rfl (SubM.nil)) (SubL.nil) (BsOk.h (SubM.nil) (SubL.nil) BsOk.z)))))))))))) fun u19 => ?_
        replace h := ck_some h; obtain ⟨hc21, h⟩ := h
        refine JR.loud rfl rfl rfl (Loud.appendRowL 4 FI64I64p rfl rfl rfl (Lent.ar (Lent.res 0 rfl) FI64I64p) rfl rfl rfl rfl hc17 hc21 rfl) rfl (fun u20 => (BsOk.b rfl (BsOk.b rfl (BsOk.b rfl (BsOk.b rfl (BsOk.b rfl (BsOk.b rfl (BsOk.b rfl (BsOk.b rfl (BsOk.h (SubM.nil) (SubL.nil) (BsOk.h (SubM.cons 1 rfl (SubM.nil)) (SubL.nil) (BsOk.h (SubM.nil) (SubL.nil) BsOk.z)))))))))))) fun u20 => ?_
        refine JR.tailD 13 rfl rfl ?_
        replace h := ck_some h; obtain ⟨hc22, h⟩ := h
        refine J.know (Know.rws 4 rfl) fun hl23 => ?_
        refine J.quiet (Y.indexA 3 rfl rfl rfl rfl rfl hc22.1 (by have q1 := hc22.2; have q2 := hl23; simp only [List.length_set] at q1 q2; omega)) rfl ?_
        refine J.know (Know.oneRow 4 (k := p1) rfl ⟨hc22.1, by simpa using hc22.2⟩) fun ho24 => ?_
        refine J.storeRow 3 4 ⟨hc22.1, by simpa using hc22.2⟩ rfl rfl rfl rfl rfl (by simp) ho24 rfl ?_
        refine J.done ?_
        refine J.thenN ?_
        refine J.seq ?_
        refine JR.start [0, 1, 0, 0, 8, 0, 56, 120, 0, 0, 768, 1792, 4088, 8191, 16383] 13 mixedOrders (by decide +kernel) ?_
        refine JR.open (by exact rfl) ?_
        refine JR.qt rfl (SubM.nil) (SubL.nil) (Y.fieldB rfl rfl rfl rfl rfl) HistOk.z ?_
        refine JR.qt rfl (SubM.cons 1 rfl (SubM.nil)) (SubL.nil) (Y.loadB 0 rfl rfl rfl rfl rfl) HistOk.z ?_
        refine JR.qt rfl (SubM.nil) (SubL.nil) (Y.move rfl) HistOk.z ?_
        refine JR.qt rfl (SubM.nil) (SubL.nil) (Y.fieldB rfl rfl rfl rfl rfl) HistOk.z ?_
        refine JR.qt rfl (SubM.cons 1 rfl (SubM.nil)) (SubL.nil) (Y.loadB 0 rfl rfl rfl rfl rfl) HistOk.z ?_
        refine JR.qt rfl (SubM.nil) (SubL.nil) (Y.move rfl) HistOk.z ?_
        replace h := ck_some h; obtain ⟨hc25, h⟩ := h
        refine JR.qt rfl (SubM.cons 3 rfl (SubM.cons 3 rfl (SubM.nil))) (SubL.nil) (Y.indexN rfl rfl (Lent.rows (i := 0) (j := 1) rfl rfl FI64I64p) rfl rfl hc25) HistOk.z ?_
        refine JR.know (Know.rws 4 rfl) fun hl26 => ?_
        refine JR.qt rfl (SubM.cons 3 rfl (SubM.nil)) (SubL.nil) (Y.loadRaw 0 rfl rfl hl26 rfl rfl hc25) HistOk.z ?_
        refine JR.qt rfl (SubM.nil) (SubL.nil) (Y.move rfl) HistOk.z ?_
        refine JR.qt rfl (SubM.nil) (SubL.nil) (Y.move rfl) HistOk.z ?_
        refine JR.qt rfl (SubM.nil) (SubL.nil) (Y.bld2 (r := Value.agg #[Value.int .i64 (p1), Value.int .i64 (p3)]) rfl rfl (by intro w; simp [Instr.build, Instr.fill, cells_intV, cells_boolV, cells_sliceV, cells_ptrV, cells_strV, cells_funcV, cells_agg])) HistOk.z ?_
        refine JR.loud rfl rfl rfl (Loud.buildS (e := EI64I64p) ([((p1, p3))]) [(0, Value.agg #[Value.int .i64 (p1), Value.int .i64 (p3)])] rfl rfl rfl rfl (fill_1_2 (Value.int .i64 (p1)) (Value.int .i64 (p3))) rfl rfl rfl) rfl (fun u27 => (BsOk.b rfl (BsOk.b rfl (BsOk.b rfl (BsOk.h (SubM.cons 4 rfl (SubM.nil)) (SubL.nil) (BsOk.h (SubM.cons 4 rfl (SubM.cons 4 rfl (SubM.nil))) (SubL.nil) (BsOk.h (SubM.nil) (SubL.nil) (BsOk.h (SubM.cons 2 rfl (SubM.nil)) (SubL.nil) (BsOk.h (SubM.nil) (SubL.nil) (BsOk.h (SubM.nil) (SubL.nil) (BsOk.h (SubM.cons 2 rfl (SubM.nil)) (SubL.nil) (BsOk.h (SubM.nil) (SubL.nil) BsOk.z)))))))))))) fun u27 => ?_
        replace h := ck_some h; obtain ⟨hc29, h⟩ := h
        refine JR.loud rfl rfl rfl (Loud.appendRowL 5 FI64I64p rfl rfl rfl (Lent.ar (Lent.res 0 rfl) FI64I64p) rfl rfl rfl rfl hc25 hc29 rfl) rfl (fun u28 => (BsOk.b rfl (BsOk.b rfl (BsOk.b rfl (BsOk.b rfl (BsOk.b rfl (BsOk.b rfl (BsOk.b rfl (BsOk.b rfl (BsOk.h (SubM.nil) (SubL.nil) (BsOk.h (SubM.cons 2 rfl (SubM.nil)) (SubL.nil) (BsOk.h (SubM.nil) (SubL.nil) BsOk.z)))))))))))) fun u28 => ?_
        refine JR.tailD 13 rfl rfl ?_
        replace h := ck_some h; obtain ⟨hc30, h⟩ := h
        refine J.know (Know.rws 5 rfl) fun hl31 => ?_
        refine J.quiet (Y.indexA 4 rfl rfl rfl rfl rfl hc30.1 (by have q1 := hc30.2; have q2 := hl31; simp only [List.length_set] at q1 q2; omega)) rfl ?_
        refine J.know (Know.oneRow 5 (k := p2) rfl ⟨hc30.1, by simpa using hc30.2⟩) fun ho32 => ?_
        refine J.storeRow 4 5 ⟨hc30.1, by simpa using hc30.2⟩ rfl rfl rfl rfl rfl (by simp) ho32 rfl ?_
        refine J.done ?_
        refine J.thenN ?_
        refine J.seq ?_
        refine J.region ?_
        refine J.quiet (Y.loadBAll 2 rfl rfl rfl rfl) rfl ?_
        refine J.know (Know.one ((Lent.ar (Lent.res 3 rfl) FI64))) fun ho33 => ?_
        refine J.know (Know.one (Lent.sl (Lent.rows (i := 4) (j := 5) rfl rfl FI64I64p))) fun ho34 => ?_
        refine J.storeAll 6 (vs := [x13.1, x13.2.1]) rfl rfl (all1 ho33 (all1 ho34 rfl)) rfl rfl rfl ?_
        refine J.quiet (Y.assign rfl) rfl ?_
        refine J.done ?_
        refine J.thenN ?_
        refine J.ret ?_
        obtain rfl := Option.some.inj h
        exact J.retG2 (x13.1, x13.2.1, (List.set (List.set x13.2.2 (Int.toNat p1) u20) (Int.toNat p2) u28)) rfl rfl (RV.cell 6 rfl rfl rfl rfl) (RV.tmp rfl) (SubM.cons 3 rfl (SubM.cons 3 rfl (SubM.cons 3 rfl (SubM.nil)))) LentAll.nil

end Go.Proofs.Ytemhmmcakmidkaa
end
section
set_option linter.unusedVariables false
set_option linter.unusedSimpArgs false
namespace Go.Proofs.Ytemhmmcakmidkaa
open Go.Sx
set_option linter.unusedVariables false
set_option linter.unusedSimpArgs false
def law03_FamilyChanges_k1  (a34 : Bool) : Option (Bool) :=
  some (a34)
def m_law03_FamilyChanges (fuel : Nat) (p0 : List (Int) × (List (List (Int × Int)))) (p1 : Int) (p2 : Int) (p3 : Int) : Option (Bool) :=
  Option.bind (m_made_LightGraph fuel ((p0.1, p0.2))) fun r2 => (if (!r2) = true then (Option.bind (m_law03_awake fuel ) fun r6 => (some (r6))) else (Option.bind (m_family_Cut fuel ((p0.1, p0.2)) p1 p2) fun r9 => (Option.bind (m_ref03_Cut fuel ((p0.1, p0.2)) p1 p2) fun r15 => (Option.bind (m_family_Connect fuel ((p0.1, p0.2)) p1 p2 p3) fun r21 => (Option.bind (m_ref03_Connect fuel ((p0.1, p0.2)) p1 p2 p3) fun r27 => (Option.bind (m_law03_awake fuel ) fun r36 => (if r36 = true then (Option.bind (m_ref01_Same fuel ((r9.1.1, r9.1.2)) ((r15.1.1, r15.1.2))) fun r40 => (if r40 = true then (if r9.2 = r15.2 then (Option.bind (m_ref01_Same fuel ((r21.1.1, r21.1.2)) ((r27.1.1, r27.1.2))) fun r45 => (if r45 = true then (law03_FamilyChanges_k1  (decide (r21.2 = r27.2))) else (law03_FamilyChanges_k1  (false)))) else (law03_FamilyChanges_k1  (false))) else (law03_FamilyChanges_k1  (false)))) else (law03_FamilyChanges_k1  (false)))))))))

set_option maxHeartbeats 4000000 in
set_option maxRecDepth 20000 in
theorem t_law03_FamilyChanges (fuel : Nat) {p0 : List (Int) × (List (List (Int × Int)))} {p1 : Int} {p2 : Int} {p3 : Int} (v0 : Value)  (v1 : Value)  (z2 : List (Value × List (Int × Int))) (r : Bool) (h : m_law03_FamilyChanges fuel p0 p1 p2 p3 = some r) :
    Meets Try.prog 13 #[Value.agg #[v0, v1], Value.int .i64 (p1), Value.int .i64 (p2), Value.int .i64 (p3)] [Sl RI64 v0 p0.1, S2 RI64I64p v1 z2 p0.2] (fun x : Unit => Value.bool (r)) (fun x l => l) (fun _ l => l) := by
  refine Meets.of (vs := [Value.agg #[v0, v1], Value.int .i64 (p1), Value.int .i64 (p2), Value.int .i64 (p3)]) Try.func13 rfl Try.ntmps13 rfl fun c => ?_
  unfold m_law03_FamilyChanges at h
  refine J.seq ?_
  refine J.region ?_
  refine J.loud (Loud.box (cs := [v0, v1]) rfl rfl) rfl fun b1 => ?_
  refine J.quiet (Y.assign rfl) rfl ?_
  refine J.done ?_
  refine J.thenN ?_
  refine J.seq ?_
  refine J.seq ?_
  refine J.region ?_
  refine J.quiet (Y.loadBAll 0 rfl rfl rfl rfl) rfl ?_
  replace h := bnd h; obtain ⟨r2, hr3, h⟩ := h
  refine J.loud (Loud.callL body46 (t_made_LightGraph fuel v0 v1 z2 r2 hr3) rfl (LentAll.cons (Lent.fact 0 rfl) (LentAll.cons (Lent.fact 1 rfl) (LentAll.nil))) (fun _ _ => rfl)) rfl fun x4 => ?_
  refine J.quiet (Y.not rfl) rfl ?_
  refine J.done ?_
  refine J.thenN ?_
  refine J.cond (by exact rfl) (fun hp5 => ?_) (fun hp5 => ?_)
  · replace h := ifP hp5 h
    refine J.seq ?_
    refine J.region ?_
    replace h := bnd h; obtain ⟨r6, hr7, h⟩ := h
    refine J.loud (Loud.callL body18 (t_law03_awake fuel  r6 hr7) rfl (LentAll.nil) (fun _ _ => rfl)) rfl fun x8 => ?_
    refine J.quiet (Y.assign rfl) rfl ?_
    refine J.done ?_
    refine J.thenN ?_
    refine J.ret ?_
    refine J.thenR ?_
    obtain rfl := Option.some.inj h
    exact J.retG1 (()) rfl rfl (RV.tmp rfl) (SubM.nil) LentAll.nil
  · replace h := ifBN hp5 h
    refine J.skip ?_
    refine J.thenN ?_
    refine J.seq ?_
    refine J.region ?_
    refine J.quiet (Y.loadBAll 0 rfl rfl rfl rfl) rfl ?_
    refine J.quiet (Y.move rfl) rfl ?_
    refine J.quiet (Y.move rfl) rfl ?_
    replace h := bnd h; obtain ⟨r9, hr10, h⟩ := h
    refine J.loud (Loud.callL body59 (t_family_Cut fuel v0 v1 z2 r9 hr10) rfl (LentAll.cons (Lent.fact 0 rfl) (LentAll.cons (Lent.fact 1 rfl) (LentAll.nil))) (fun _ _ => rfl)) rfl fun x11 => ?_
    refine J.quiet (Y.move rfl) rfl ?_
    refine J.quiet (Y.extract rfl rfl) rfl ?_
    refine J.quiet (Y.extract rfl rfl) rfl ?_
    refine J.loud (Loud.alloc (cs := [Value.slice none 0 0, Value.slice none 0 0]) rfl rfl) rfl fun b12 => ?_
    refine J.know (Know.one ((Lent.ar (Lent.res 1 rfl) FI64))) fun ho13 => ?_
    refine J.know (Know.one (Lent.sl (Lent.rows (i := 2) (j := 3) rfl rfl FI64I64p))) fun ho14 => ?_
    refine J.storeAll 0 (vs := [x11.1, x11.2.1]) rfl rfl (all1 ho13 (all1 ho14 rfl)) rfl rfl rfl ?_
    refine J.quiet (Y.assign rfl) rfl ?_
    refine J.done ?_
    refine J.thenN ?_
    refine J.seq ?_
    refine J.region ?_
    refine J.quiet (Y.loadBAll 4 rfl rfl rfl rfl) rfl ?_
    refine J.quiet (Y.move rfl) rfl ?_
    refine J.quiet (Y.move rfl) rfl ?_
    replace h := bnd h; obtain ⟨r15, hr16, h⟩ := h
    refine J.loud (Loud.callL body60 (t_ref03_Cut fuel v0 v1 z2 r15 hr16) rfl (LentAll.cons (Lent.fact 0 rfl) (LentAll.cons (Lent.fact 1 rfl) (LentAll.nil))) (fun _ _ => rfl)) rfl fun x17 => ?_
    refine J.quiet (Y.move rfl) rfl ?_
    refine J.quiet (Y.extract rfl rfl) rfl ?_
    refine J.quiet (Y.extract rfl rfl) rfl ?_
    refine J.loud (Loud.alloc (cs := [Value.slice none 0 0, Value.slice none 0 0]) rfl rfl) rfl fun b18 => ?_
    refine J.know (Know.one ((Lent.ar (Lent.res 1 rfl) FI64))) fun ho19 => ?_
    refine J.know (Know.one (Lent.sl (Lent.rows (i := 2) (j := 3) rfl rfl FI64I64p))) fun ho20 => ?_
    refine J.storeAll 0 (vs := [x17.1, x17.2.1]) rfl rfl (all1 ho19 (all1 ho20 rfl)) rfl rfl rfl ?_
    refine J.quiet (Y.assign rfl) rfl ?_
    refine J.done ?_
    refine J.thenN ?_
    refine J.seq ?_
    refine J.region ?_
    refine J.quiet (Y.loadBAll 8 rfl rfl rfl rfl) rfl ?_
    refine J.quiet (Y.move rfl) rfl ?_
    refine J.quiet (Y.move rfl) rfl ?_
    refine J.quiet (Y.move rfl) rfl ?_
    replace h := bnd h; obtain ⟨r21, hr22, h⟩ := h
    refine J.loud (Loud.callL body61 (t_family_Connect fuel v0 v1 z2 r21 hr22) rfl (LentAll.cons (Lent.fact 0 rfl) (LentAll.cons (Lent.fact 1 rfl) (LentAll.nil))) (fun _ _ => rfl)) rfl fun x23 => ?_
    refine J.quiet (Y.move rfl) rfl ?_
    refine J.quiet (Y.extract rfl rfl) rfl ?_
    refine J.quiet (Y.extract rfl rfl) rfl ?_
    refine J.loud (Loud.alloc (cs := [Value.slice none 0 0, Value.slice none 0 0]) rfl rfl) rfl fun b24 => ?_
    refine J.know (Know.one ((Lent.ar (Lent.res 1 rfl) FI64))) fun ho25 => ?_
    refine J.know (Know.one (Lent.sl (Lent.rows (i := 2) (j := 3) rfl rfl FI64I64p))) fun ho26 => ?_
    refine J.storeAll 0 (vs := [x23.1, x23.2.1]) rfl rfl (all1 ho25 (all1 ho26 rfl)) rfl rfl rfl ?_
    refine J.quiet (Y.assign rfl) rfl ?_
    refine J.done ?_
    refine J.thenN ?_
    refine J.seq ?_
    refine J.region ?_
    refine J.quiet (Y.loadBAll 12 rfl rfl rfl rfl) rfl ?_
    refine J.quiet (Y.move rfl) rfl ?_
    refine J.quiet (Y.move rfl) rfl ?_
    refine J.quiet (Y.move rfl) rfl ?_
    replace h := bnd h; obtain ⟨r27, hr28, h⟩ := h
    refine J.loud (Loud.callL body62 (t_ref03_Connect fuel v0 v1 z2 r27 hr28) rfl (LentAll.cons (Lent.fact 0 rfl) (LentAll.cons (Lent.fact 1 rfl) (LentAll.nil))) (fun _ _ => rfl)) rfl fun x29 => ?_
    refine J.quiet (Y.move rfl) rfl ?_
    refine J.quiet (Y.extract rfl rfl) rfl ?_
    refine J.quiet (Y.extract rfl rfl) rfl ?_
    refine J.loud (Loud.alloc (cs := [Value.slice none 0 0, Value.slice none 0 0]) rfl rfl) rfl fun b30 => ?_
    refine J.know (Know.one ((Lent.ar (Lent.res 1 rfl) FI64))) fun ho31 => ?_
    refine J.know (Know.one (Lent.sl (Lent.rows (i := 2) (j := 3) rfl rfl FI64I64p))) fun ho32 => ?_
    refine J.storeAll 0 (vs := [x29.1, x29.2.1]) rfl rfl (all1 ho31 (all1 ho32 rfl)) rfl rfl rfl ?_
    refine J.quiet (Y.assign rfl) rfl ?_
    refine J.done ?_
    refine J.thenN ?_
    refine J.seq ?_
    refine J.midI (A := Bool) (B := Unit) (fun a34 => law03_FamilyChanges_k1  a34 = some r) (fun a34 b35 => [(8, Value.bool (a34))]) (fun a34 b35 => []) (fun a34 b35 => [Sl RI64 v0 p0.1, S2 RI64I64p v1 z2 p0.2]) ?_ ?_
    · refine J.region ?_
      replace h := bnd h; obtain ⟨r36, hr37, h⟩ := h
      refine J.loud (Loud.callL body18 (t_law03_awake fuel  r36 hr37) rfl (LentAll.nil) (fun _ _ => rfl)) rfl fun x38 => ?_
      refine J.quiet (Y.move rfl) rfl ?_
      refine J.guard (by exact rfl) (by exact rfl) (fun hp39 => ?_) (fun hp39 => ?_)
      · replace h := ifP hp39 h
        refine J.guardY rfl (Y.loadBAll 12 rfl rfl rfl rfl) rfl ?_
        refine J.guardY rfl (Y.loadBAll 8 rfl rfl rfl rfl) rfl ?_
        replace h := bnd h; obtain ⟨r40, hr41, h⟩ := h
        refine J.loudG rfl (Loud.callL body21 (t_ref01_Same fuel x11.1 x11.2.1 (List.zip x11.2.2 r9.1.2) x17.1 x17.2.1 (List.zip x17.2.2 r15.1.2) r40 hr41) rfl (LentAll.cons (Lent.ar (Lent.res 13 rfl) FI64) (LentAll.cons (Lent.rows (i := 14) (j := 15) rfl rfl FI64I64p) (LentAll.cons (Lent.ar (Lent.res 9 rfl) FI64) (LentAll.cons (Lent.rows (i := 10) (j := 11) rfl rfl FI64I64p) (LentAll.nil))))) (fun _ _ => rfl)) rfl fun x42 => ?_
        refine J.quiet (Y.pickT rfl rfl) rfl ?_
        refine J.quiet (Y.move rfl) rfl ?_
        refine J.guard (by exact rfl) (by exact rfl) (fun hp43 => ?_) (fun hp43 => ?_)
        · replace h := ifP hp43 h
          refine J.guardY rfl (Y.move rfl) rfl ?_
          refine J.guardY rfl (Y.move rfl) rfl ?_
          refine J.guardY rfl (Y.eql rfl rfl) rfl ?_
          refine J.quiet (Y.pickT rfl rfl) rfl ?_
          refine J.quiet (Y.move rfl) rfl ?_
          refine J.guardD (by exact rfl) (by exact rfl) (fun hp44 => ?_) (fun hp44 => ?_)
          · replace h := ifP hp44 h
            refine J.guardY rfl (Y.loadBAll 4 rfl rfl rfl rfl) rfl ?_
            refine J.guardY rfl (Y.loadBAll 0 rfl rfl rfl rfl) rfl ?_
            replace h := bnd h; obtain ⟨r45, hr46, h⟩ := h
            refine J.loudG rfl (Loud.callL body21 (t_ref01_Same fuel x23.1 x23.2.1 (List.zip x23.2.2 r21.1.2) x29.1 x29.2.1 (List.zip x29.2.2 r27.1.2) r45 hr46) rfl (LentAll.cons (Lent.ar (Lent.res 5 rfl) FI64) (LentAll.cons (Lent.rows (i := 6) (j := 7) rfl rfl FI64I64p) (LentAll.cons (Lent.ar (Lent.res 1 rfl) FI64) (LentAll.cons (Lent.rows (i := 2) (j := 3) rfl rfl FI64I64p) (LentAll.nil))))) (fun _ _ => rfl)) rfl fun x47 => ?_
            refine J.quiet (Y.pickT rfl rfl) rfl ?_
            refine J.quiet (Y.move rfl) rfl ?_
            refine J.guard (by exact rfl) (by exact rfl) (fun hp48 => ?_) (fun hp48 => ?_)
            · replace h := ifP hp48 h
              refine J.guardY rfl (Y.move rfl) rfl ?_
              refine J.guardY rfl (Y.move rfl) rfl ?_
              refine J.guardY rfl (Y.eql rfl rfl) rfl ?_
              refine J.quiet (Y.pickT rfl rfl) rfl ?_
              refine J.quiet (Y.assign rfl) rfl ?_
              refine J.done ?_
              refine J.thenN ?_
              exact J.meetI (decide (r21.2 = r27.2)) (()) h (by repeat (first | exact SubF.nil | refine SubF.cons rfl ?_)) (SubM.nil) (LentAll.refl _ _)
            · replace h := ifBN hp48 h
              refine J.guardN rfl rfl rfl ?_
              refine J.guardN rfl rfl rfl ?_
              refine J.guardN rfl rfl rfl ?_
              refine J.quiet (Y.pickF rfl rfl) rfl ?_
              refine J.quiet (Y.assign rfl) rfl ?_
              refine J.done ?_
              refine J.thenN ?_
              exact J.meetI (false) (()) h (by repeat (first | exact SubF.nil | refine SubF.cons rfl ?_)) (SubM.nil) (LentAll.refl _ _)
          · replace h := ifN hp44 h
            refine J.guardN rfl rfl rfl ?_
            refine J.guardN rfl rfl rfl ?_
            refine J.guardN rfl rfl rfl ?_
            refine J.quiet (Y.pickF rfl rfl) rfl ?_
            refine J.quiet (Y.move rfl) rfl ?_
            refine J.guardN rfl rfl rfl ?_
            refine J.guardN rfl rfl rfl ?_
            refine J.guardN rfl rfl rfl ?_
            refine J.quiet (Y.pickF rfl rfl) rfl ?_
            refine J.quiet (Y.assign rfl) rfl ?_
            refine J.done ?_
            refine J.thenN ?_
            exact J.meetI (false) (()) h (by repeat (first | exact SubF.nil | refine SubF.cons rfl ?_)) (SubM.nil) (LentAll.refl _ _)
        · replace h := ifBN hp43 h
          refine J.guardN rfl rfl rfl ?_
          refine J.guardN rfl rfl rfl ?_
          refine J.guardN rfl rfl rfl ?_
          refine J.quiet (Y.pickF rfl rfl) rfl ?_
          refine J.quiet (Y.move rfl) rfl ?_
          refine J.guardN rfl rfl rfl ?_
          refine J.guardN rfl rfl rfl ?_
          refine J.guardN rfl rfl rfl ?_
          refine J.quiet (Y.pickF rfl rfl) rfl ?_
          refine J.quiet (Y.move rfl) rfl ?_
          refine J.guardN rfl rfl rfl ?_
          refine J.guardN rfl rfl rfl ?_
          refine J.guardN rfl rfl rfl ?_
          refine J.quiet (Y.pickF rfl rfl) rfl ?_
          refine J.quiet (Y.assign rfl) rfl ?_
          refine J.done ?_
          refine J.thenN ?_
          exact J.meetI (false) (()) h (by repeat (first | exact SubF.nil | refine SubF.cons rfl ?_)) (SubM.nil) (LentAll.refl _ _)
      · replace h := ifBN hp39 h
        refine J.guardN rfl rfl rfl ?_
        refine J.guardN rfl rfl rfl ?_
        refine J.guardN rfl rfl rfl ?_
        refine J.quiet (Y.pickF rfl rfl) rfl ?_
        refine J.quiet (Y.move rfl) rfl ?_
        refine J.guardN rfl rfl rfl ?_
        refine J.guardN rfl rfl rfl ?_
        refine J.guardN rfl rfl rfl ?_
        refine J.quiet (Y.pickF rfl rfl) rfl ?_
        refine J.quiet (Y.move rfl) rfl ?_
        refine J.guardN rfl rfl rfl ?_
        refine J.guardN rfl rfl rfl ?_
        refine J.guardN rfl rfl rfl ?_
        refine J.quiet (Y.pickF rfl rfl) rfl ?_
        refine J.quiet (Y.move rfl) rfl ?_
        refine J.guardN rfl rfl rfl ?_
        refine J.guardN rfl rfl rfl ?_
        refine J.guardN rfl rfl rfl ?_
        refine J.quiet (Y.pickF rfl rfl) rfl ?_
        refine J.quiet (Y.assign rfl) rfl ?_
        refine J.done ?_
        refine J.thenN ?_
        exact J.meetI (false) (()) h (by repeat (first | exact SubF.nil | refine SubF.cons rfl ?_)) (SubM.nil) (LentAll.refl _ _)
    · clear h
      intro a34 b35 h
      unfold law03_FamilyChanges_k1 at h
      refine J.ret ?_
      obtain rfl := Option.some.inj h
      exact J.retG1 (()) rfl rfl (RV.tmp rfl) (SubM.refl _) LentAll.nil

end Go.Proofs.Ytemhmmcakmidkaa
end
section
set_option linter.unusedVariables false
set_option linter.unusedSimpArgs false
namespace Go.Proofs.Ytemhmmcakmidkaa
open Go.Sx
def del (l : List (Int × Int)) (i : Nat) : List (Int × Int) := l.take i ++ l.drop (i + 1)

theorem del_len (l : List (Int × Int)) (i : Nat) : (del l i).length ≤ l.length := by
  unfold del
  simp
  omega

theorem delete_eq (l : List (Int × Int)) {i : Nat} (hi : i < l.length) (hl : l.length ≤ 900) : m_slices_Delete 1000 l (i : Int) (wI .i64 ((i : Int) + 1)) = some (del l i) := by
  unfold m_slices_Delete
  rw [wr (by omega) (by omega), ckT (by omega), if_neg (by omega), ckT (by omega), ckT (by omega), ckT (by omega), Int.toNat_natCast, show ((i : Int) + 1).toNat = i + 1 by omega]
  rfl

theorem without_eq (l : List (Int × Int)) {i : Nat} (hi : i < l.length) (hl : l.length ≤ 900) : m_ref03_without 1000 l (i : Int) = some (del l i) := by
  unfold m_ref03_without
  rw [wr (by omega) (by omega), ckT (by omega), ckT (by simp; omega), ckT (by omega), ckT (by simp; omega)]
  unfold del
  rw [show ((i : Int) + 1).toNat = i + 1 by omega]
  simp

/-- two different nodes -/
def Two (g : GR) (a b : Int) : Prop := 0 ≤ a ∧ a < g.2.length ∧ 0 ≤ b ∧ b < g.2.length ∧ a ≠ b

theorem nodes_eq {g : GR} (hV : VG g) (a b : Int) : (Two g a b → m_ref03_nodes 1000 g a b = some true) ∧ (¬ Two g a b → m_ref03_nodes 1000 g a b = some false) := by
  have h24 := hV.n24
  unfold m_ref03_nodes ref03_nodes_k1 Two
  rw [wr (by omega) (by omega), refIn_eq, bindS rfl]
  by_cases h1 : 0 ≤ a ∧ a ≤ (g.2.length : Int) - 1
  · rw [if_pos (decide_eq_true h1), refIn_eq, bindS rfl]
    by_cases h2 : 0 ≤ b ∧ b ≤ (g.2.length : Int) - 1
    · rw [if_pos (decide_eq_true h2)]
      by_cases h3 : a ≠ b
      · rw [decide_eq_true h3]; exact ⟨fun _ => rfl, fun h => absurd ⟨h1.1, by omega, h2.1, by omega, h3⟩ h⟩
      · rw [decide_eq_false h3]; exact ⟨fun h => absurd h.2.2.2.2 h3, fun _ => rfl⟩
    · rw [if_neg (by simpa using h2)]; exact ⟨fun h => absurd ⟨h.2.2.1, by omega⟩ h2, fun _ => rfl⟩
  · rw [if_neg (by simpa using h1)]; exact ⟨fun h => absurd ⟨h.1, by omega⟩ h1, fun _ => rfl⟩

theorem ends_eq {g : GR} (hV : VG g) (a b : Int) : (Two g a b → m_family_ends 1000 g a b = some (((a, b), (b, a)), true)) ∧ (¬ Two g a b → m_family_ends 1000 g a b = some (((0, 0), (0, 0)), false)) := by
  have hlen := hV.len
  unfold m_family_ends family_ends_k1 Two
  by_cases h1 : a < 0
  · rw [if_pos h1, if_pos rfl]; exact ⟨fun h => by omega, fun _ => rfl⟩
  rw [if_neg h1]
  by_cases h2 : (g.1.length : Int) ≤ a
  · rw [if_pos h2, if_pos rfl]; exact ⟨fun h => by omega, fun _ => rfl⟩
  rw [if_neg h2]
  by_cases h3 : b < 0
  · rw [if_pos h3, if_pos rfl]; exact ⟨fun h => by omega, fun _ => rfl⟩
  rw [if_neg h3]
  by_cases h4 : (g.1.length : Int) ≤ b
  · rw [if_pos h4, if_pos rfl]; exact ⟨fun h => by omega, fun _ => rfl⟩
  rw [if_neg h4]
  by_cases h5 : a = b
  · rw [decide_eq_true h5, if_pos rfl]; exact ⟨fun h => by omega, fun _ => rfl⟩
  · rw [decide_eq_false h5, if_neg (by simp)]; exact ⟨fun _ => rfl, fun h => absurd ⟨by omega, by omega, by omega, by omega, h5⟩ h⟩

theorem iter_unroll {X R : Type} (step : X → (X → Option R) → Option R) (k : Nat) (x : X) : iter step (k + 1) x = step x (iter step k) := rfl

/-! ## the graphs that are made -/
def cutG (g : GR) (a b i j : Nat) : GR := (g.1, (g.2.set a (del (row g a) i)).set b (del (row g b) j))
def conG (g : GR) (a b : Nat) (w : Int) : GR := (g.1, (g.2.set a (row g a ++ [((b : Int), w)])).set b (row g b ++ [((a : Int), w)]))

theorem small_set2 {g : GR} (hV : VG g) (a b : Nat) {x y : List (Int × Int)} (hx : x.length ≤ 900) (hy : y.length ≤ 900) : small (g.1, (g.2.set a x).set b y) := by
  obtain ⟨h1, h2, h3⟩ := hV.small
  refine ⟨h1, by simpa using h2, fun l hl => ?_⟩
  rcases List.mem_or_eq_of_mem_set hl with hl | rfl
  · rcases List.mem_or_eq_of_mem_set hl with hl | rfl
    · exact h3 l hl
    · exact hx
  · exact hy

theorem port_back {g : GR} (hV : VG g) {a b i : Nat} (ha : a < g.2.length) (hi : i < (row g a).length) (he : (lnk (row g a) i).1 = (b : Int)) : ∃ j : Nat, j < (row g b).length ∧ portOf (row g b) (a : Int) = j := by
  obtain ⟨k, hk, hke⟩ := hV.back ha ⟨i, hi, he⟩
  rcases portOf_cases (row g b) (a : Int) with ⟨j, hj, _, _, hp⟩ | ⟨hn, _⟩
  · exact ⟨j, hj, hp⟩
  · exact absurd hke (hn k hk)

theorem famCut_ok {g : GR} (hV : VG g) {a b i j : Nat} (ha : a < g.2.length) (hb : b < g.2.length) (hab : a ≠ b) (hi : i < (row g a).length) (hpi : portOf (row g a) (b : Int) = i) (hj : j < (row g b).length) (hpj : portOf (row g b) (a : Int) = j) :
    m_family_Cut 1000 g a b = some (cutG g a b i j, 0) := by
  have h24 := hV.n24
  have hlen := hV.len
  have da := (hV.node a ha).deg
  have db := (hV.node b hb).deg
  have hT : Two g a b := ⟨by omega, by omega, by omega, by omega, by omega⟩
  have p1 := portTo_eq g a (b : Int) ha (by omega)
  have p2 := portTo_eq g b (a : Int) hb (by omega)
  rw [hpi] at p1
  rw [hpj] at p2
  have hc2 := copied_eq g.2 (by omega) (fun v hv => by have := (hV.node v hv).deg; have q : (at' g.2 (v : Int)).length = (row g v).length := rfl; omega)
  unfold m_family_Cut
  rw [bindS ((valid_eq g hV.light).1 hV), if_neg (by simp), bindS ((ends_eq hV a b).1 hT), if_neg (by simp), bindS p1, decide_eq_false (by omega)]
  unfold family_Cut_k1
  rw [if_neg (by simp), bindS (clone_eq g.1 (by omega)), bindS hc2]
  unfold family_Cut_k2
  dsimp only
  have q1 : (at' g.2 (a : Int)).length = (row g a).length := rfl
  have q2 : (at' g.2 (b : Int)).length = (row g b).length := rfl
  have hrow : at' (g.2.set a (del (row g a) i)) (b : Int) = row g b := by rw [at_set _ _ _ _ ha, if_neg (by omega)]
  have r0 : ∀ ag, family_Cut_s1 1000 g (((a, b), (b, a)), true) (g.2, g.1) ((0 : Int), g.2) ag = ag ((1 : Int), g.2.set a (del (row g a) i)) := by
    intro ag
    unfold family_Cut_s1
    dsimp only
    rw [if_pos (by omega), ckT (by omega), show at' [(a : Int), (b : Int)] ((Int.toNat 0 : Nat) : Int) = (a : Int) from rfl, show at' [(b : Int), (a : Int)] ((Int.toNat 0 : Nat) : Int) = (b : Int) from rfl, bindS p1, ckT (by omega), bindS (delete_eq _ (by omega) (by omega)), ckT (by simp; omega), wr (by omega) (by omega), Int.toNat_natCast]
    rfl
  have r1 : ∀ ag, family_Cut_s1 1000 g (((a, b), (b, a)), true) (g.2, g.1) ((1 : Int), g.2.set a (del (row g a) i)) ag = ag ((2 : Int), (g.2.set a (del (row g a) i)).set b (del (row g b) j)) := by
    intro ag
    unfold family_Cut_s1
    dsimp only
    rw [if_pos (by omega), ckT (by omega), show at' [(a : Int), (b : Int)] ((Int.toNat 1 : Nat) : Int) = (b : Int) from rfl, show at' [(b : Int), (a : Int)] ((Int.toNat 1 : Nat) : Int) = (a : Int) from rfl, bindS p2, ckT (by simp; omega), hrow, bindS (delete_eq _ hj (by omega)), ckT (by simp; omega), wr (by omega) (by omega), Int.toNat_natCast]
    rfl
  have r2 : ∀ ag, family_Cut_s1 1000 g (((a, b), (b, a)), true) (g.2, g.1) ((2 : Int), (g.2.set a (del (row g a) i)).set b (del (row g b) j)) ag = some (cutG g a b i j, 0) := by
    intro ag
    unfold family_Cut_s1
    dsimp only
    rw [if_neg (by omega)]
    rfl
  rw [show (1000 : Nat) = 999 + 1 from rfl, iter_unroll]
  show family_Cut_s1 1000 g _ _ _ (iter (family_Cut_s1 1000 g _ _) (998 + 1)) = _
  rw [r0, iter_unroll]
  show family_Cut_s1 1000 g _ _ _ (iter (family_Cut_s1 1000 g _ _) (997 + 1)) = _
  rw [r1, iter_unroll]
  exact r2 _

theorem refCut_ok {g : GR} (hV : VG g) {a b i j : Nat} (ha : a < g.2.length) (hb : b < g.2.length) (hab : a ≠ b) (hi : i < (row g a).length) (hpi : portOf (row g a) (b : Int) = i) (hj : j < (row g b).length) (hpj : portOf (row g b) (a : Int) = j) :
    m_ref03_Cut 1000 g a b = some (cutG g a b i j, 0) := by
  have h24 := hV.n24
  have hlen := hV.len
  have da := (hV.node a ha).deg
  have db := (hV.node b hb).deg
  have hT : Two g a b := ⟨by omega, by omega, by omega, by omega, by omega⟩
  have p1 := refPort_eq g a (b : Int) ha (by omega)
  have p2 := refPort_eq g b (a : Int) hb (by omega)
  rw [hpi] at p1
  rw [hpj] at p2
  have hc := refCopy_eq g (by omega) (by omega) (fun v hv => by have := (hV.node v hv).deg; omega)
  unfold m_ref03_Cut
  rw [bindS ((refValid_eq g hV.light).1 hV), if_neg (by simp), bindS ((nodes_eq hV a b).1 hT), if_neg (by simp), bindS p1, decide_eq_false (by omega)]
  unfold ref03_Cut_k1
  rw [if_neg (by simp), bindS hc, ckT (by omega), bindS p1, bindS (without_eq (row g a) hi (by omega)), ckT (by omega), ckT (by omega), bindS p2, bindS (without_eq (row g b) hj (by omega)), ckT (by simp; omega), Int.toNat_natCast, Int.toNat_natCast]
  rfl

theorem cut_no {g : GR} (hV : VG g) (a b : Int) (h : ¬ (Two g a b ∧ 0 ≤ portOf (at' g.2 a) b)) : m_family_Cut 1000 g a b = some (([], []), 2) ∧ m_ref03_Cut 1000 g a b = some (([], []), 2) := by
  unfold m_family_Cut m_ref03_Cut
  rw [bindS ((valid_eq g hV.light).1 hV), if_neg (by simp), bindS ((refValid_eq g hV.light).1 hV), if_neg (by simp)]
  by_cases hT : Two g a b
  · have hp : portOf (at' g.2 a) b < 0 := by
      rcases Int.lt_or_le (portOf (at' g.2 a) b) 0 with h' | h'
      · exact h'
      · exact absurd ⟨hT, h'⟩ h
    obtain ⟨a, rfl⟩ : ∃ k : Nat, a = k := ⟨a.toNat, by have := hT.1; omega⟩
    have hT2 := hT.2.1
    have da := (hV.node a (by omega)).deg
    have h24 := hV.n24
    rw [bindS ((ends_eq hV a b).1 hT), if_neg (by simp), bindS ((nodes_eq hV a b).1 hT), if_neg (by simp), bindS (portTo_eq g a b (by omega) (by omega)), bindS (refPort_eq g a b (by omega) (by omega)), decide_eq_true hp]
    exact ⟨rfl, rfl⟩
  · rw [bindS ((ends_eq hV a b).2 hT), bindS ((nodes_eq hV a b).2 hT)]
    exact ⟨rfl, rfl⟩

theorem cut_alike {g : GR} (hl : light g) (a b : Int) : Alike (m_family_Cut 1000 g a b) (m_ref03_Cut 1000 g a b) := by
  by_cases hV : VG g
  rotate_left
  · have e1 : m_family_Cut 1000 g a b = some (([], []), 1) := by
      unfold m_family_Cut
      rw [bindS ((valid_eq g hl).2 hV)]; rfl
    have e2 : m_ref03_Cut 1000 g a b = some (([], []), 1) := by
      unfold m_ref03_Cut
      rw [bindS ((refValid_eq g hl).2 hV)]; rfl
    rw [e1, e2]; exact Alike.err 1
  by_cases h : Two g a b ∧ 0 ≤ portOf (at' g.2 a) b
  · obtain ⟨⟨h1, h2, h3, h4, h5⟩, hp⟩ := h
    obtain ⟨a, rfl⟩ : ∃ k : Nat, a = k := ⟨a.toNat, by omega⟩
    obtain ⟨b, rfl⟩ : ∃ k : Nat, b = k := ⟨b.toNat, by omega⟩
    rcases portOf_cases (row g a) (b : Int) with ⟨i, hi, hie, _, hpi⟩ | ⟨_, hpi⟩
    · obtain ⟨j, hj, hpj⟩ := port_back hV (by omega) hi hie
      have h24 := hV.n24
      have da := (hV.node a (by omega)).deg
      have db := (hV.node b (by omega)).deg
      have l1 := del_len (row g a) i
      have l2 := del_len (row g b) j
      exact ⟨_, famCut_ok hV (by omega) (by omega) (by omega) hi hpi hj hpj, refCut_ok hV (by omega) (by omega) (by omega) hi hpi hj hpj, small_set2 hV a b (by omega) (by omega)⟩
    · have : portOf (at' g.2 (a : Int)) (b : Int) = -1 := hpi
      omega
  · obtain ⟨e1, e2⟩ := cut_no hV a b h
    rw [e1, e2]; exact Alike.err 2

/-! ## a new link -/
theorem famCon_ok {g : GR} (hV : VG g) {a b : Nat} {w : Int} (ha : a < g.2.length) (hb : b < g.2.length) (hab : a ≠ b) (hp : portOf (row g a) (b : Int) = -1) (hw : 1 ≤ w ∧ w ≤ 15) : m_family_Connect 1000 g a b w = some (conG g a b w, 0) := by
  have h24 := hV.n24
  have hlen := hV.len
  have da := (hV.node a ha).deg
  have db := (hV.node b hb).deg
  have hT : Two g a b := ⟨by omega, by omega, by omega, by omega, by omega⟩
  have p1 := portTo_eq g a (b : Int) ha (by omega)
  rw [hp] at p1
  have hc2 := copied_eq g.2 (by omega) (fun v hv => by have := (hV.node v hv).deg; have q : (at' g.2 (v : Int)).length = (row g v).length := rfl; omega)
  have q1 : (at' g.2 (a : Int)).length = (row g a).length := rfl
  have hrow : at' (g.2.set a (row g a ++ [((b : Int), w)])) (b : Int) = row g b := by rw [at_set _ _ _ _ ha, if_neg (by omega)]
  unfold m_family_Connect
  rw [bindS ((valid_eq g hV.light).1 hV), if_neg (by simp), bindS ((ends_eq hV a b).1 hT), if_neg (by simp), bindS p1, if_neg (by omega), if_neg (by omega), decide_eq_false (by omega)]
  unfold family_Connect_k1
  rw [if_neg (by simp), bindS (clone_eq g.1 (by omega)), bindS hc2]
  unfold family_Connect_k2
  dsimp only
  have r0 : ∀ ag, family_Connect_s1 w (((a, b), (b, a)), true) (g.2, g.1) ((0 : Int), g.2) ag = ag ((1 : Int), g.2.set a (row g a ++ [((b : Int), w)])) := by
    intro ag
    unfold family_Connect_s1
    dsimp only
    rw [if_pos (by omega), ckT (by omega), show at' [(a : Int), (b : Int)] ((Int.toNat 0 : Nat) : Int) = (a : Int) from rfl, show at' [(b : Int), (a : Int)] ((Int.toNat 0 : Nat) : Int) = (b : Int) from rfl, ckT (by omega), ckT (by simp; omega), ckT (by simp; omega), wr (by omega) (by omega), Int.toNat_natCast]
    rfl
  have r1 : ∀ ag, family_Connect_s1 w (((a, b), (b, a)), true) (g.2, g.1) ((1 : Int), g.2.set a (row g a ++ [((b : Int), w)])) ag = ag ((2 : Int), (g.2.set a (row g a ++ [((b : Int), w)])).set b (row g b ++ [((a : Int), w)])) := by
    intro ag
    unfold family_Connect_s1
    dsimp only
    rw [if_pos (by omega), ckT (by omega), show at' [(a : Int), (b : Int)] ((Int.toNat 1 : Nat) : Int) = (b : Int) from rfl, show at' [(b : Int), (a : Int)] ((Int.toNat 1 : Nat) : Int) = (a : Int) from rfl, hrow, ckT (by simp; omega), ckT (by simp; omega), ckT (by simp; omega), wr (by omega) (by omega), Int.toNat_natCast]
    rfl
  have r2 : ∀ ag, family_Connect_s1 w (((a, b), (b, a)), true) (g.2, g.1) ((2 : Int), (g.2.set a (row g a ++ [((b : Int), w)])).set b (row g b ++ [((a : Int), w)])) ag = some (conG g a b w, 0) := by
    intro ag
    unfold family_Connect_s1
    dsimp only
    rw [if_neg (by omega)]
    rfl
  rw [show (1000 : Nat) = 999 + 1 from rfl, iter_unroll]
  show family_Connect_s1 w _ _ _ (iter (family_Connect_s1 w _ _) (998 + 1)) = _
  rw [r0, iter_unroll]
  show family_Connect_s1 w _ _ _ (iter (family_Connect_s1 w _ _) (997 + 1)) = _
  rw [r1, iter_unroll]
  exact r2 _

theorem refCon_ok {g : GR} (hV : VG g) {a b : Nat} {w : Int} (ha : a < g.2.length) (hb : b < g.2.length) (hab : a ≠ b) (hp : portOf (row g a) (b : Int) = -1) (hw : 1 ≤ w ∧ w ≤ 15) : m_ref03_Connect 1000 g a b w = some (conG g a b w, 0) := by
  have h24 := hV.n24
  have hlen := hV.len
  have da := (hV.node a ha).deg
  have db := (hV.node b hb).deg
  have hT : Two g a b := ⟨by omega, by omega, by omega, by omega, by omega⟩
  have p1 := refPort_eq g a (b : Int) ha (by omega)
  rw [hp] at p1
  have hc := refCopy_eq g (by omega) (by omega) (fun v hv => by have := (hV.node v hv).deg; omega)
  have q1 : (at' g.2 (a : Int)).length = (row g a).length := rfl
  have hrow : at' (g.2.set a (row g a ++ [((b : Int), w)])) (b : Int) = row g b := by rw [at_set _ _ _ _ ha, if_neg (by omega)]
  unfold m_ref03_Connect
  rw [bindS ((refValid_eq g hV.light).1 hV), if_neg (by simp), bindS ((nodes_eq hV a b).1 hT), if_neg (by simp), bindS p1, if_neg (by omega), refIn_eq, decide_eq_true hw, bindS rfl]
  unfold ref03_Connect_k1
  rw [if_neg (by simp), bindS hc, ckT (by omega), ckT (by simp; omega), ckT (by simp; omega), ckT (by simp; omega), Int.toNat_natCast, hrow, ckT (by simp; omega), ckT (by simp; omega), Int.toNat_natCast]
  rfl

theorem con_no {g : GR} (hV : VG g) (a b w : Int) (h : ¬ (Two g a b ∧ portOf (at' g.2 a) b = -1 ∧ 1 ≤ w ∧ w ≤ 15)) : m_family_Connect 1000 g a b w = some (([], []), 2) ∧ m_ref03_Connect 1000 g a b w = some (([], []), 2) := by
  unfold m_family_Connect m_ref03_Connect
  rw [bindS ((valid_eq g hV.light).1 hV), if_neg (by simp), bindS ((refValid_eq g hV.light).1 hV), if_neg (by simp)]
  by_cases hT : Two g a b
  · obtain ⟨a, rfl⟩ : ∃ k : Nat, a = k := ⟨a.toNat, by have := hT.1; omega⟩
    have hT2 := hT.2.1
    have da := (hV.node a (by omega)).deg
    have h24 := hV.n24
    have hpc : 0 ≤ portOf (row g a) b ∨ (portOf (row g a) b = -1 ∧ ¬ (1 ≤ w ∧ w ≤ 15)) := by
      rcases portOf_cases (row g a) b with ⟨i, _, _, _, e⟩ | ⟨_, e⟩
      · exact .inl (by omega)
      · exact .inr ⟨e, fun hw => h ⟨hT, e, hw⟩⟩
    refine ⟨?_, ?_⟩
    · rw [bindS ((ends_eq hV a b).1 hT), if_neg (by simp), bindS (portTo_eq g a b (by omega) (by omega))]
      rcases hpc with hp | ⟨hp, hw⟩
      · rw [if_pos hp]; rfl
      · rw [if_neg (by omega)]
        by_cases h1 : w < 1
        · rw [if_pos h1]; rfl
        · rw [if_neg h1, decide_eq_true (by omega)]; rfl
    · rw [bindS ((nodes_eq hV a b).1 hT), if_neg (by simp), bindS (refPort_eq g a b (by omega) (by omega))]
      rcases hpc with hp | ⟨hp, hw⟩
      · rw [if_pos hp]; rfl
      · rw [if_neg (by omega), refIn_eq, decide_eq_false hw]; rfl
  · rw [bindS ((ends_eq hV a b).2 hT), bindS ((nodes_eq hV a b).2 hT)]
    exact ⟨rfl, rfl⟩

theorem con_alike {g : GR} (hl : light g) (a b w : Int) : Alike (m_family_Connect 1000 g a b w) (m_ref03_Connect 1000 g a b w) := by
  by_cases hV : VG g
  rotate_left
  · have e1 : m_family_Connect 1000 g a b w = some (([], []), 1) := by
      unfold m_family_Connect
      rw [bindS ((valid_eq g hl).2 hV)]; rfl
    have e2 : m_ref03_Connect 1000 g a b w = some (([], []), 1) := by
      unfold m_ref03_Connect
      rw [bindS ((refValid_eq g hl).2 hV)]; rfl
    rw [e1, e2]; exact Alike.err 1
  by_cases h : Two g a b ∧ portOf (at' g.2 a) b = -1 ∧ 1 ≤ w ∧ w ≤ 15
  · obtain ⟨⟨h1, h2, h3, h4, h5⟩, hp, hw⟩ := h
    obtain ⟨a, rfl⟩ : ∃ k : Nat, a = k := ⟨a.toNat, by omega⟩
    obtain ⟨b, rfl⟩ : ∃ k : Nat, b = k := ⟨b.toNat, by omega⟩
    have h24 := hV.n24
    have da := (hV.node a (by omega)).deg
    have db := (hV.node b (by omega)).deg
    exact ⟨_, famCon_ok hV (by omega) (by omega) (by omega) hp hw, refCon_ok hV (by omega) (by omega) (by omega) hp hw, small_set2 hV a b (by simp; omega) (by simp; omega)⟩
  · obtain ⟨e1, e2⟩ := con_no hV a b w h
    rw [e1, e2]; exact Alike.err 2

theorem changes_pure (g : GR) (a b w : Int) : m_law03_FamilyChanges 1000 g a b w = some true := by
  unfold m_law03_FamilyChanges
  by_cases hl : light g
  rotate_left
  · rw [bindS ((lightGraph_eq g).2 hl), if_pos (by rfl), bindS awakeK]
  rw [bindS ((lightGraph_eq g).1 hl), if_neg (by simp)]
  obtain ⟨r1, a1, b1, s1⟩ := cut_alike hl a b
  obtain ⟨r2, a2, b2, s2⟩ := con_alike hl a b w
  rw [bindS a1, bindS b1, bindS a2, bindS b2, bindS awakeK, if_pos rfl, bindS (same_refl _ s1), if_pos rfl, if_pos rfl, bindS (same_refl _ s2), if_pos rfl, decide_eq_true rfl]
  rfl

/-! ## the new link, cut -/
end Go.Proofs.Ytemhmmcakmidkaa
end
