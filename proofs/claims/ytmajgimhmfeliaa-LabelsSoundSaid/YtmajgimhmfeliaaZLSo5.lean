/- Models of functions with their proofs, by program (gen/xt.py), and plain laws, in one text. Conditions: none. -/
import Derived.Test.YtmajgimhmfeliaaZLSo3
import Derived.Test.YtmajgimhmfeliaaZLSo4
import Derived.Test.YtmajgimhmfeliaaZLSo2
section
set_option linter.unusedVariables false
set_option linter.unusedSimpArgs false
namespace Go.Proofs.Ytmajgimhmfeliaa
open Go.Sx
set_option linter.unusedVariables false
set_option linter.unusedSimpArgs false
def m_labels_Holds (fuel : Nat) (p0 : Int) (p1 : List (Int) × (List (List (Int × Int)))) (p2 : List (Int)) : Option (Bool) :=
  Option.bind (m_labels_Prove fuel p0 ((p1.1, p1.2)) p2) fun r2 => (some (decide (r2.2 = (0 : Int))))

theorem body19 : HasBody Try.prog 19 := Try.call19

set_option maxHeartbeats 4000000 in
set_option maxRecDepth 20000 in
theorem t_labels_Holds (fuel : Nat) {p0 : Int} {p1 : List (Int) × (List (List (Int × Int)))} {p2 : List (Int)} (v0 : Value)  (v1 : Value)  (z2 : List (Value × List (Int × Int)))  (v3 : Value) (r : Bool) (h : m_labels_Holds fuel p0 p1 p2 = some r) :
    Meets Try.prog 19 #[Value.int .i64 (p0), Value.agg #[v0, v1], v3] [Sl RI64 v0 p1.1, S2 RI64I64p v1 z2 p1.2, Sl RI64 v3 p2] (fun x : Unit => Value.bool (r)) (fun x l => l) (fun _ l => l) := by
  refine Meets.of (vs := [Value.int .i64 (p0), Value.agg #[v0, v1], v3]) Try.func19 rfl Try.ntmps19 rfl fun c => ?_
  unfold m_labels_Holds at h
  refine J.seq ?_
  refine J.region ?_
  refine J.loud (Loud.box (cs := [v0, v1]) rfl rfl) rfl fun b1 => ?_
  refine J.quiet (Y.assign rfl) rfl ?_
  refine J.done ?_
  refine J.thenN ?_
  refine J.seq ?_
  refine J.region ?_
  refine J.quiet (Y.move rfl) rfl ?_
  refine J.quiet (Y.loadBAll 0 rfl rfl rfl rfl) rfl ?_
  refine J.quiet (Y.move rfl) rfl ?_
  replace h := bnd h; obtain ⟨r2, hr3, h⟩ := h
  refine J.loud (Loud.callL body12 (t_labels_Prove fuel v0 v1 z2 v3 r2 hr3) rfl (LentAll.cons (Lent.fact 0 rfl) (LentAll.cons (Lent.fact 1 rfl) (LentAll.cons (Lent.fact 2 rfl) (LentAll.nil)))) (fun _ _ => rfl)) rfl fun x4 => ?_
  refine J.quiet (Y.move rfl) rfl ?_
  refine J.quiet (Y.extract rfl rfl) rfl ?_
  refine J.quiet (Y.extract rfl rfl) rfl ?_
  refine J.quiet (Y.assign rfl) rfl ?_
  refine J.quiet (Y.assign rfl) rfl ?_
  refine J.done ?_
  refine J.thenN ?_
  refine J.seq ?_
  refine J.region ?_
  refine J.quiet (Y.move rfl) rfl ?_
  refine J.quiet (Y.eql rfl rfl) rfl ?_
  refine J.quiet (Y.assign rfl) rfl ?_
  refine J.done ?_
  refine J.thenN ?_
  refine J.ret ?_
  obtain rfl := Option.some.inj h
  exact J.retG1 (()) rfl rfl (RV.tmp rfl) (SubM.nil) LentAll.nil

end Go.Proofs.Ytmajgimhmfeliaa
end
section
set_option linter.unusedVariables false
set_option linter.unusedSimpArgs false
namespace Go.Proofs.Ytmajgimhmfeliaa
open Go.Sx
set_option linter.unusedVariables false
set_option linter.unusedSimpArgs false
def law39_LabelsSound_k1  (a13 : Bool) : Option (Bool) :=
  some (a13)
def m_law39_LabelsSound (fuel : Nat) (p0 : Int × List (Int) × List (Int) × List (Int) × Bool × Bool) (p1 : Int × List (Int) × List (Int)) : Option (Bool) :=
  Option.bind (m__world_Net__Connected fuel ((p0.1, p0.2.1, p0.2.2.1, p0.2.2.2.1, p0.2.2.2.2.1, p0.2.2.2.2.2)) (8 : Int)) fun r3 => (Option.bind (m__law39_Claimed__shape fuel ((p1.1, p1.2.1, p1.2.2)) ((r3.1, r3.2))) fun r9 => (Option.bind (m_law39_known fuel ) fun r15 => (if r15 = true then (Option.bind (m_labels_Holds fuel r9.1 ((r3.1, r3.2)) r9.2.1) fun r19 => (if r19 = true then (law39_LabelsSound_k1  (true)) else (Option.bind (m_labels_Rejecting fuel r9.1 ((r3.1, r3.2)) r9.2.1 r9.2.2) fun r23 => (law39_LabelsSound_k1  (decide (r23 ≠ (0 : Int))))))) else (law39_LabelsSound_k1  (false)))))

set_option maxHeartbeats 4000000 in
set_option maxRecDepth 20000 in
theorem t_law39_LabelsSound (fuel : Nat) {p0 : Int × List (Int) × List (Int) × List (Int) × Bool × Bool} {p1 : Int × List (Int) × List (Int)} (v0 : Value)  (v1 : Value)  (v2 : Value)  (v3 : Value)  (v4 : Value) (r : Bool) (h : m_law39_LabelsSound fuel p0 p1 = some r) :
    Meets Try.prog 8 #[Value.agg #[Value.int .i64 (p0.1), v0, v1, v2, Value.bool (p0.2.2.2.2.1), Value.bool (p0.2.2.2.2.2)], Value.agg #[Value.int .i64 (p1.1), v3, v4]] [Sl RI64 v0 p0.2.1, Sl RI64 v1 p0.2.2.1, Sl RI64 v2 p0.2.2.2.1, Sl RI64 v3 p1.2.1, Sl RI64 v4 p1.2.2] (fun x : Unit => Value.bool (r)) (fun x l => l) (fun _ l => l) := by
  refine Meets.of (vs := [Value.agg #[Value.int .i64 (p0.1), v0, v1, v2, Value.bool (p0.2.2.2.2.1), Value.bool (p0.2.2.2.2.2)], Value.agg #[Value.int .i64 (p1.1), v3, v4]]) Try.func8 rfl Try.ntmps8 rfl fun c => ?_
  unfold m_law39_LabelsSound at h
  refine J.seq ?_
  refine J.region ?_
  refine J.loud (Loud.box (cs := [Value.int .i64 (p0.1), v0, v1, v2, Value.bool (p0.2.2.2.2.1), Value.bool (p0.2.2.2.2.2)]) rfl rfl) rfl fun b1 => ?_
  refine J.loud (Loud.box (cs := [Value.int .i64 (p1.1), v3, v4]) rfl rfl) rfl fun b2 => ?_
  refine J.quiet (Y.assign rfl) rfl ?_
  refine J.done ?_
  refine J.thenN ?_
  refine J.seq ?_
  refine J.region ?_
  refine J.quiet (Y.loadBAll 1 rfl rfl rfl rfl) rfl ?_
  replace h := bnd h; obtain ⟨r3, hr4, h⟩ := h
  refine J.loud (Loud.callL body10 (t__world_Net__Connected fuel v0 v1 v2 r3 hr4) rfl (LentAll.cons (Lent.fact 0 rfl) (LentAll.cons (Lent.fact 1 rfl) (LentAll.cons (Lent.fact 2 rfl) (LentAll.nil)))) (fun _ _ => rfl)) rfl fun x5 => ?_
  refine J.loud (Loud.alloc (cs := [Value.slice none 0 0, Value.slice none 0 0]) rfl rfl) rfl fun b6 => ?_
  refine J.know (Know.one ((Lent.ar (Lent.res 1 rfl) FI64))) fun ho7 => ?_
  refine J.know (Know.one (Lent.sl (Lent.rows (i := 2) (j := 3) rfl rfl FI64I64p))) fun ho8 => ?_
  refine J.storeAll 0 (vs := [x5.1, x5.2.1]) rfl rfl (all1 ho7 (all1 ho8 rfl)) rfl rfl rfl ?_
  refine J.done ?_
  refine J.thenN ?_
  refine J.seq ?_
  refine J.region ?_
  refine J.quiet (Y.loadBAll 4 rfl rfl rfl rfl) rfl ?_
  refine J.quiet (Y.loadBAll 0 rfl rfl rfl rfl) rfl ?_
  replace h := bnd h; obtain ⟨r9, hr10, h⟩ := h
  refine J.loud (Loud.callL body11 (t__law39_Claimed__shape fuel v3 v4 x5.1 x5.2.1 (List.zip x5.2.2 r3.2) r9 hr10) rfl (LentAll.cons (Lent.fact 3 rfl) (LentAll.cons (Lent.fact 4 rfl) (LentAll.cons (Lent.ar (Lent.res 1 rfl) FI64) (LentAll.cons (Lent.rows (i := 2) (j := 3) rfl rfl FI64I64p) (LentAll.nil))))) (fun _ _ => rfl)) rfl fun x11 => ?_
  refine J.quiet (Y.move rfl) rfl ?_
  refine J.quiet (Y.extract rfl rfl) rfl ?_
  refine J.quiet (Y.extract rfl rfl) rfl ?_
  refine J.quiet (Y.extract rfl rfl) rfl ?_
  refine J.quiet (Y.assign rfl) rfl ?_
  refine J.quiet (Y.assign rfl) rfl ?_
  refine J.quiet (Y.assign rfl) rfl ?_
  refine J.done ?_
  refine J.thenN ?_
  refine J.seq ?_
  refine J.midI (A := Bool) (B := Unit) (fun a13 => law39_LabelsSound_k1  a13 = some r) (fun a13 b14 => [(4, Value.bool (a13))]) (fun a13 b14 => []) (fun a13 b14 => [Sl RI64 v0 p0.2.1, Sl RI64 v1 p0.2.2.1, Sl RI64 v2 p0.2.2.2.1, Sl RI64 v3 p1.2.1, Sl RI64 v4 p1.2.2]) ?_ ?_
  · refine J.region ?_
    replace h := bnd h; obtain ⟨r15, hr16, h⟩ := h
    refine J.loud (Loud.callL body13 (t_law39_known fuel  r15 hr16) rfl (LentAll.nil) (fun _ _ => rfl)) rfl fun x17 => ?_
    refine J.quiet (Y.move rfl) rfl ?_
    refine J.guard (by exact rfl) (by exact rfl) (fun hp18 => ?_) (fun hp18 => ?_)
    · replace h := ifP hp18 h
      refine J.guardY rfl (Y.move rfl) rfl ?_
      refine J.guardY rfl (Y.loadBAll 2 rfl rfl rfl rfl) rfl ?_
      refine J.guardY rfl (Y.move rfl) rfl ?_
      replace h := bnd h; obtain ⟨r19, hr20, h⟩ := h
      refine J.loudG rfl (Loud.callL body19 (t_labels_Holds fuel x5.1 x5.2.1 (List.zip x5.2.2 r3.2) x11.1 r19 hr20) rfl (LentAll.cons (Lent.ar (Lent.res 3 rfl) FI64) (LentAll.cons (Lent.rows (i := 4) (j := 5) rfl rfl FI64I64p) (LentAll.cons (Lent.ar (Lent.res 0 rfl) FI64) (LentAll.nil)))) (fun _ _ => rfl)) rfl fun x21 => ?_
      refine J.guardY rfl (Y.move rfl) rfl ?_
      refine J.guard (by exact rfl) (by exact rfl) (fun hp22 => ?_) (fun hp22 => ?_)
      · replace h := ifP hp22 h
        refine J.guardN rfl rfl rfl ?_
        refine J.guardN rfl rfl rfl ?_
        refine J.guardN rfl rfl rfl ?_
        refine J.guardN rfl rfl rfl ?_
        refine J.guardN rfl rfl rfl ?_
        refine J.guardN rfl rfl rfl ?_
        refine J.guardY rfl (Y.pickT rfl rfl) rfl ?_
        refine J.quiet (Y.pickT rfl rfl) rfl ?_
        refine J.quiet (Y.assign rfl) rfl ?_
        refine J.done ?_
        refine J.thenN ?_
        exact J.meetI (true) (()) h (by repeat (first | exact SubF.nil | refine SubF.cons rfl ?_)) (SubM.nil) (LentAll.refl _ _)
      · replace h := ifBN hp22 h
        refine J.guardY rfl (Y.move rfl) rfl ?_
        refine J.guardY rfl (Y.loadBAll 2 rfl rfl rfl rfl) rfl ?_
        refine J.guardY rfl (Y.move rfl) rfl ?_
        refine J.guardY rfl (Y.move rfl) rfl ?_
        replace h := bnd h; obtain ⟨r23, hr24, h⟩ := h
        refine J.loudG rfl (Loud.callL body25 (t_labels_Rejecting fuel x5.1 x5.2.1 (List.zip x5.2.2 r3.2) x11.1 x11.2 r23 hr24) rfl (LentAll.cons (Lent.ar (Lent.res 3 rfl) FI64) (LentAll.cons (Lent.rows (i := 4) (j := 5) rfl rfl FI64I64p) (LentAll.cons (Lent.ar (Lent.res 0 rfl) FI64) (LentAll.cons (Lent.ar (Lent.res 1 rfl) FI64I64p) (LentAll.nil))))) (fun _ _ => rfl)) rfl fun x25 => ?_
        refine J.guardY rfl (Y.neq rfl rfl) rfl ?_
        refine J.guardY rfl (Y.pickF rfl rfl) rfl ?_
        refine J.quiet (Y.pickT rfl rfl) rfl ?_
        refine J.quiet (Y.assign rfl) rfl ?_
        refine J.done ?_
        refine J.thenN ?_
        exact J.meetI (decide (r23 ≠ (0 : Int))) (()) h (by repeat (first | exact SubF.nil | refine SubF.cons rfl ?_)) (SubM.nil) (LentAll.refl _ _)
    · replace h := ifBN hp18 h
      refine J.guardN rfl rfl rfl ?_
      refine J.guardN rfl rfl rfl ?_
      refine J.guardN rfl rfl rfl ?_
      refine J.guardN rfl rfl rfl ?_
      refine J.guardN rfl rfl rfl ?_
      refine J.qu (h := ?_)
      refine J.qu (h := ?_)
      refine J.qu (h := ?_)
      refine J.qu (h := ?_)
      refine J.qu (h := ?_)
      refine J.qu (h := ?_)
      refine J.guardN rfl rfl rfl ?_
      refine J.quiet (Y.pickF rfl rfl) rfl ?_
      refine J.quiet (Y.assign rfl) rfl ?_
      refine J.done ?_
      refine J.thenN ?_
      exact J.meetI (false) (()) h (by repeat (first | exact SubF.nil | refine SubF.cons rfl ?_)) (SubM.nil) (LentAll.refl _ _)
  · clear h
    intro a13 b14 h
    unfold law39_LabelsSound_k1 at h
    refine J.ret ?_
    obtain rfl := Option.some.inj h
    exact J.retG1 (()) rfl rfl (RV.tmp rfl) (SubM.refl _) LentAll.nil

end Go.Proofs.Ytmajgimhmfeliaa
end
section
set_option linter.unusedVariables false
set_option linter.unusedSimpArgs false
namespace Go.Proofs.Ytmajgimhmfeliaa
open Go.Sx
set_option linter.unusedVariables false
theorem conn_of {g : GR} (hV : VM g.1 g.2) (h : ∀ v : Nat, 1 ≤ v → v < g.2.length → ∃ u : Nat, u < v ∧ NextTo g.2 u v) : Conn g := by
  have hg : VG g := hV.vg
  have h1 := hV.n1
  have w0 : ∀ v, v < g.2.length → ∃ k, Walk g 0 k v := by
    intro v
    induction v using Nat.strongRecOn with
    | _ v ih =>
      intro hv
      by_cases h0 : v = 0
      · subst h0; exact ⟨0, rfl, hv⟩
      · obtain ⟨u, hu, x, hx, he⟩ := h v (by omega) hv
        obtain ⟨k, hw⟩ := ih u hu (by omega)
        obtain ⟨i, hi, hie⟩ := at_of_mem hx
        refine ⟨k + 1, u, hw, i, hi, ?_⟩
        show (at' (at' g.2 (u : Int)) (i : Int)).1 = _
        rw [hie, he]
  intro u v hu hv
  obtain ⟨a, ha⟩ := w0 u hu
  obtain ⟨b, hb⟩ := w0 v hv
  exact ⟨a + b, (Walk.rev hg ha).trans hb⟩

theorem fit_of {g : GR} {y0 : Int} {r : Int × List Int × List (Int × Int)} (h : Shaped g y0 r) : Fit r.1 g r.2.1 := ⟨h.kind, h.st, h.fit⟩

theorem holds_spec {g : GR} (hV : VM g.1 g.2) (hC : Conn g) {kind : Int} {st : List Int} (hF : Fit kind g st) : ∃ b, m_labels_Holds 1000 kind g st = some b ∧ (b = true ↔ HoldsP kind g st) := by
  obtain ⟨⟨l, e⟩, hp, hq⟩ := prove_spec hV hC hF
  refine ⟨decide (e = 0), ?_, ?_⟩
  · unfold m_labels_Holds
    rw [bindS hp]
  · rw [decide_eq_true_eq]
    rcases hq with ⟨h1, h2, _⟩ | ⟨h1, h2⟩
    · exact ⟨fun _ => h2, fun _ => h1⟩
    · cases h1
      exact ⟨fun h => (by cases h), fun h => absurd h h2⟩

theorem pure_LabelsSound (x : NETX) (y : Int × List (Int) × List (Int)) : m_law39_LabelsSound 1000 x y = some true := by
  obtain ⟨g, e1, hV, _, hT⟩ := connected_ok x 8 (by decide) (by decide)
  have hC := conn_of hV hT
  obtain ⟨⟨kind, st, lb⟩, e2, hS⟩ := shape_ok y hV
  have hF : Fit kind g st := fit_of hS
  have hll : lb.length = g.2.length := hS.lb
  unfold m_law39_LabelsSound
  have e1' : m__world_Net__Connected 1000 x 8 = some g := e1
  rw [bindS e1', bindS e2]
  dsimp only
  obtain ⟨b, hb, hbi⟩ := holds_spec hV hC hF
  rw [bindS known_eq, if_pos rfl, bindS hb]
  cases b with
  | true => rw [if_pos rfl]; rfl
  | false =>
    obtain ⟨r, hr, hri⟩ := rejecting_iff (l := lb) hV.vg hF hll
    rw [if_neg (by simp), bindS hr]
    have hne : r ≠ 0 := fun h => by
      have := hbi.2 (sound hV hC hF hll hS.bd (hri.1 h))
      cases this
    rw [decide_eq_true hne]
    rfl
end Go.Proofs.Ytmajgimhmfeliaa
end
