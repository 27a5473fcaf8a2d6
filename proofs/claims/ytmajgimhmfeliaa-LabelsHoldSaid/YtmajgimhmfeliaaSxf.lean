/- The layer Sx, part 6: a region that draws its order is walked in the order of its text, if its loud operations are ordered among themselves. Conditions: a check of the region's edges, decided by running it. -/
import Derived.Test.YtmajgimhmfeliaaSxe
set_option linter.unusedVariables false
set_option linter.unusedSimpArgs false
namespace Go.Sx
open Go.RowKit

section
variable {P : Program} {ops : Array Oper} {Q : Exit → Act → World → Prop}

def NoQ : Exit → Act → World → Prop := fun _ _ _ => False

theorem letsNoQ : ¬ LetsOut NoQ := fun ⟨_, _, h⟩ => h

theorem nwp_Q {o : Oper} {a : Act} {w : World} {K : Act → World → Prop} (h : o.wp P a w K NoQ) : o.wp P a w K Q := by
  unfold Oper.wp at *
  generalize (execOp a.eval o).run P w = r at *
  cases r with
  | ok n w' =>
    cases n <;> simp only [Oper.upon] at h ⊢ <;> first
      | exact h
      | exact Calls.mono h (fun e w'' he => by cases e <;> first | exact he | exact absurd he letsNoQ | exact he.elim)
  | halt x w' => cases x <;> simp only [Oper.upon] at h ⊢ <;> first | exact h | exact h.elim

/-- an outcome differs from its act in the slot d alone (and in the deferred calls) -/
def Like (a a' : Act) (d : Option Tmp) : Prop := ∃ u ds, a' = ({ a with defers := ds } : Act).put d u

theorem nwp_like {o : Oper} {a : Act} {w : World} {K : Act → World → Prop} (h : o.wp P a w K NoQ) : o.wp P a w (fun a' w' => K a' w' ∧ Like a a' o.dst) NoQ := by
  unfold Oper.wp at *
  generalize (execOp a.eval o).run P w = r at *
  cases r with
  | ok n w' =>
    cases n <;> simp only [Oper.upon] at h ⊢
    case value v => exact ⟨h, v, a.defers, rfl⟩
    case skip => exact ⟨h, undef, a.defers, rfl⟩
    case defer d => exact ⟨h, undef, d :: a.defers, rfl⟩
    case enter f args =>
      refine Calls.mono h fun e w'' he => ?_
      cases e with
      | returned v => exact ⟨he, v, a.defers, rfl⟩
      | panicked c => exact he
      | outgrown => exact he
    case row row args => exact Rows.mono h fun v w'' he => ⟨he, v, a.defers, rfl⟩
  | halt x w' => cases x <;> simp only [Oper.upon] at h ⊢ <;> exact h

theorem nwp_some {o : Oper} {a : Act} {w : World} {K : Act → World → Prop} (h : o.wp P a w K NoQ) : ∃ a' w', K a' w' := by
  unfold Oper.wp at *
  generalize (execOp a.eval o).run P w = r at *
  cases r with
  | ok n w' =>
    cases n <;> simp only [Oper.upon] at h
    case value v => exact ⟨_, _, h⟩
    case skip => exact ⟨_, _, h⟩
    case defer d => exact ⟨_, _, h⟩
    case enter f args =>
      obtain ⟨e, w'', fr, he, _⟩ := h []
      cases e with
      | returned v => exact ⟨_, _, he⟩
      | panicked c => exact he.elim
      | outgrown => exact absurd he letsNoQ
    case row row args =>
      obtain ⟨v, w'', he, _⟩ := h default []
      exact ⟨_, _, he⟩
  | halt x w' => cases x <;> simp only [Oper.upon] at h <;> exact h.elim

theorem nwp_put {o : Oper} {a : Act} {w : World} {K : Act → World → Prop} {d : Option Tmp} {v : Value} (hs : ∀ cs b, o.op ≠ .select cs b) (h1 : ∀ t, d = some t → t ∉ o.looksAt ops) (h2 : ∀ t, d = some t → o.dst ≠ some t)
    (h : o.wp P a w K NoQ) : o.wp P (a.put d v) w (fun a' w' => ∃ a1, K a1 w' ∧ a' = a1.put d v) NoQ := by
  unfold Oper.wp at *
  rw [execOp_put (ops := ops) o hs a d v h1]
  have hd : (a.put d v).defers = a.defers := by cases d <;> rfl
  generalize (execOp a.eval o).run P w = r at *
  cases r with
  | ok n w' =>
    cases n <;> simp only [Oper.upon] at h ⊢
    case value u => exact ⟨_, h, Act.put_comm a v u h2⟩
    case skip => exact ⟨_, h, Act.put_comm a v undef h2⟩
    case defer e => exact ⟨_, h, by rw [Act.put_defers, Act.put_comm _ v undef h2]⟩
    case enter f args =>
      refine Calls.mono h fun e w'' he => ?_
      cases e with
      | returned u => exact ⟨_, he, Act.put_comm a v u h2⟩
      | panicked c => exact he
      | outgrown => exact he
    case row row args => exact Rows.mono h fun u w'' he => ⟨_, he, Act.put_comm a v u h2⟩
  | halt x w' => cases x <;> simp only [Oper.upon] at h ⊢ <;> exact h

theorem nwp_mono {o : Oper} {a : Act} {w : World} {K K' : Act → World → Prop} (hk : ∀ a w, K a w → K' a w) (h : o.wp P a w K NoQ) : o.wp P a w K' NoQ := Oper.wp_mono hk h

/-- the value v, in every world where B stands; B stands now, and stood before every loud operation that need not come first -/
def Quiet (P : Program) (A : Nat → Nat → Bool) (i : Nat) (o : Oper) (a : Act) (w : World) (H : List (Nat × World)) (v : Value) (B : World → Prop) : Prop :=
  B w ∧ (∀ l ∈ H, A i l.1 = false → B l.2) ∧ ∀ w', B w' → (execOp a.eval o).run P w' = .ok (.value v) w'

/-- the walk of a region in the order of its text; H: the worlds before the loud operations that are past; Bs: what the quiet ones that are past lean on -/
def RW (P : Program) (ops : Array Oper) (Q : Exit → Act → World → Prop) (A : Nat → Nat → Bool) (loud : Nat → Bool) (k0 : Nat) : List Nat → Act → World → List (Nat × World) → List (Nat × (World → Prop)) → Prop
  | [], a, w, _, _ => Q .normal a w
  | i :: rest, a, w, H, Bs =>
    match ops[i]? with
    | none => False
    | some o =>
      if Region.wanted o (yielded ops a.tmps) then
        (k0 ≤ i ∧ (o.wp P a w (fun a' w' => RW P ops Q A loud k0 rest a' w' H Bs) Q ∨ o.rnd P a w (fun a' w' => RW P ops Q A loud k0 rest a' w' H Bs))) ∨
        (i < k0 ∧ loud i = false ∧ ∃ v B, Quiet P A i o a w H v B ∧ RW P ops Q A loud k0 rest (a.put o.dst v) w H ((i, B) :: Bs)) ∨
        (i < k0 ∧ loud i = true ∧ o.wp P a w (fun a' w' => (∀ b ∈ Bs, A i b.1 = false → b.2 w') ∧ RW P ops Q A loud k0 rest a' w' ((i, w) :: H) Bs) NoQ)
      else RW P ops Q A loud k0 rest (a.put o.dst undef) w H Bs

variable {A : Nat → Nat → Bool} {loud : Nat → Bool} {k0 : Nat}

/-- fewer leanings -/
theorem RW.less : ∀ (L : List Nat) (a : Act) (w : World) (H : List (Nat × World)) (Bs Bs' : List (Nat × (World → Prop))), (∀ b ∈ Bs', b ∈ Bs) → RW P ops Q A loud k0 L a w H Bs → RW P ops Q A loud k0 L a w H Bs' := by
  intro L
  induction L with
  | nil => intro a w H Bs Bs' _ h; exact h
  | cons i L ih =>
    intro a w H Bs Bs' hb h
    simp only [RW] at h ⊢
    cases ho : ops[i]? with
    | none => simp [ho] at h
    | some o =>
      simp only [ho] at h ⊢
      split
      · rename_i hw
        rw [if_pos hw] at h
        rcases h with ⟨h1, h2⟩ | ⟨h1, h2, v, B, h3, h4⟩ | ⟨h1, h2, h3⟩
        · refine .inl ⟨h1, ?_⟩
          rcases h2 with h2 | h2
          · exact .inl (Oper.wp_mono (fun a w h => ih a w H Bs Bs' hb h) h2)
          · exact .inr (Oper.rnd_mono (fun a w h => ih a w H Bs Bs' hb h) h2)
        · exact .inr (.inl ⟨h1, h2, v, B, h3, ih _ _ _ _ _ (fun b hm => by
            rcases List.mem_cons.1 hm with rfl | hm
            · exact List.mem_cons_self
            · exact List.mem_cons_of_mem _ (hb b hm)) h4⟩)
        · exact .inr (.inr ⟨h1, h2, nwp_mono (fun a w h => ⟨fun b hm => h.1 b (hb b hm), ih a w _ Bs Bs' hb h.2⟩) h3⟩)
      · rename_i hw
        rw [if_neg hw] at h
        exact ih _ _ _ _ _ hb h

structure Indep (ops : Array Oper) (A : Nat → Nat → Bool) (loud : Nat → Bool) (x i : Nat) : Prop where
  na : A i x = false
  nb : A x i = false
  apart : ∀ ox oi, ops[x]? = some ox → ops[i]? = some oi → ox.apart ops oi = true
  one : loud x = false ∨ loud i = false

theorem like_exec {a a' : Act} {o : Oper} {d : Option Tmp} (hs : ∀ cs b, o.op ≠ .select cs b) (h : ∀ t, d = some t → t ∉ o.looksAt ops) (hl : Like a a' d) : execOp a'.eval o = execOp a.eval o ∧ Region.wanted o (yielded ops a'.tmps) = Region.wanted o (yielded ops a.tmps) := by
  obtain ⟨u, ds, rfl⟩ := hl
  refine ⟨(execOp_put (ops := ops) o hs { a with defers := ds } d u h).trans rfl, wanted_put o { a with defers := ds } d u h⟩

theorem Quiet.of_exec {i : Nat} {o : Oper} {a a' : Act} {w : World} {H : List (Nat × World)} {v : Value} {B : World → Prop} (h : Quiet P A i o a w H v B) (e : execOp a'.eval o = execOp a.eval o) : Quiet P A i o a' w H v B := by
  obtain ⟨h1, h2, h3⟩ := h
  exact ⟨h1, h2, fun w' hw => by rw [e]; exact h3 w' hw⟩

/-- a quiet operation that is ready can come first -/
theorem RW.pull_quiet (hsel : ∀ (i : Nat) (o : Oper), ops[i]? = some o → ∀ cs b, o.op ≠ .select cs b) {i : Nat} {o : Oper} {L2 : List Nat} (hi : ops[i]? = some o) (hik : i < k0) (hli : loud i = false) :
    ∀ (L1 : List Nat) (a : Act) (w : World) (H : List (Nat × World)) (Bs : List (Nat × (World → Prop))), (∀ x ∈ L1, Indep ops A loud x i ∧ x < k0) → RW P ops Q A loud k0 (L1 ++ i :: L2) a w H Bs →
      (Region.wanted o (yielded ops a.tmps) = false ∧ RW P ops Q A loud k0 (L1 ++ L2) (a.put o.dst undef) w H Bs) ∨
      (Region.wanted o (yielded ops a.tmps) = true ∧ ∃ v B, Quiet P A i o a w H v B ∧ RW P ops Q A loud k0 (L1 ++ L2) (a.put o.dst v) w H Bs) := by
  intro L1
  induction L1 with
  | nil =>
    intro a w H Bs _ h
    simp only [List.nil_append, RW, hi] at h
    by_cases hw : Region.wanted o (yielded ops a.tmps) = true
    · rw [if_pos hw] at h
      rcases h with ⟨h, _⟩ | ⟨_, _, v, B, hv, h⟩ | ⟨_, h, _⟩
      · omega
      · exact .inr ⟨hw, v, B, hv, RW.less _ _ _ _ _ _ (fun b hb => List.mem_cons_of_mem _ hb) h⟩
      · rw [hli] at h; cases h
    · rw [if_neg hw] at h
      exact .inl ⟨by simpa using hw, h⟩
  | cons x L1 ih =>
    intro a w H Bs hx h
    obtain ⟨hxi, hxk⟩ := hx x List.mem_cons_self
    have hxs : ∀ y ∈ L1, Indep ops A loud y i ∧ y < k0 := fun y hy => hx y (List.mem_cons_of_mem _ hy)
    simp only [List.cons_append, RW] at h ⊢
    cases hox : ops[x]? with
    | none => simp [hox] at h
    | some ox =>
      simp only [hox] at h ⊢
      obtain ⟨p1, p2, p3⟩ := Oper.apart_spec (hxi.apart ox o hox hi)
      have hso := hsel i o hi
      have hsx := hsel x ox hox
      have q2 : ∀ (d : Tmp), o.dst = some d → ox.dst ≠ some d := fun d hd he => p2 d he hd
      have ex : ∀ (b : Act) u, execOp (b.put o.dst u).eval ox = execOp b.eval ox := fun b u => execOp_put (ops := ops) ox hsx b o.dst u p3
      have wx : ∀ (b : Act) u, Region.wanted ox (yielded ops (b.put o.dst u).tmps) = Region.wanted ox (yielded ops b.tmps) := fun b u => wanted_put ox b o.dst u p3
      have ei : ∀ (b : Act) u, execOp (b.put ox.dst u).eval o = execOp b.eval o := fun b u => execOp_put (ops := ops) o hso b ox.dst u p1
      have wi : ∀ (b : Act) u, Region.wanted o (yielded ops (b.put ox.dst u).tmps) = Region.wanted o (yielded ops b.tmps) := fun b u => wanted_put o b ox.dst u p1
      by_cases hw : Region.wanted ox (yielded ops a.tmps) = true
      · rw [if_pos hw] at h
        rcases h with ⟨h, _⟩ | ⟨_, hlx, vx, Bx, hvx, h⟩ | ⟨_, hlx, h⟩
        · omega
        · rcases ih _ w H _ hxs h with ⟨h1, h2⟩ | ⟨h1, v, B, h2, h3⟩
          · rw [wi] at h1
            refine .inl ⟨h1, ?_⟩
            rw [if_pos (by rw [wx]; exact hw)]
            exact .inr (.inl ⟨hxk, hlx, vx, Bx, hvx.of_exec (ex a undef), by rw [← Act.put_comm a vx undef p2]; exact h2⟩)
          · rw [wi] at h1
            refine .inr ⟨h1, v, B, h2.of_exec (ei a vx).symm, ?_⟩
            rw [if_pos (by rw [wx]; exact hw)]
            exact .inr (.inl ⟨hxk, hlx, vx, Bx, hvx.of_exec (ex a v), by rw [← Act.put_comm a vx v p2]; exact h3⟩)
        · have h' := nwp_like h
          obtain ⟨a1, w1, ⟨⟨_, hr1⟩, hl1⟩⟩ := nwp_some h'
          have le := fun {a' : Act} (hl : Like a a' ox.dst) => like_exec (ops := ops) hso p1 hl
          rcases ih a1 w1 _ _ hxs hr1 with ⟨h1, _⟩ | ⟨h1, v, B, ⟨hb1, hb2, hb3⟩, _⟩
          · have hwi : Region.wanted o (yielded ops a.tmps) = false := by rw [← (le hl1).2]; exact h1
            refine .inl ⟨hwi, ?_⟩
            rw [if_pos (by rw [wx]; exact hw)]
            refine .inr (.inr ⟨hxk, hlx, ?_⟩)
            refine nwp_mono ?_ (nwp_put (ops := ops) (d := o.dst) (v := undef) hsx p3 q2 h')
            rintro a2 w2 ⟨a3, ⟨⟨he, hr⟩, hl⟩, rfl⟩
            refine ⟨he, ?_⟩
            rcases ih a3 w2 _ _ hxs hr with ⟨_, h5⟩ | ⟨h4, _⟩
            · exact h5
            · rw [(le hl).2, hwi] at h4; cases h4
          · have hwi : Region.wanted o (yielded ops a.tmps) = true := by rw [← (le hl1).2]; exact h1
            have hbw : B w := hb2 (x, w) List.mem_cons_self hxi.na
            have hrun : (execOp a.eval o).run P w = .ok (.value v) w := by rw [← (le hl1).1]; exact hb3 w hbw
            refine .inr ⟨hwi, v, B, ⟨hbw, fun l hl => hb2 l (List.mem_cons_of_mem _ hl), fun w' hw' => by rw [← (le hl1).1]; exact hb3 w' hw'⟩, ?_⟩
            rw [if_pos (by rw [wx]; exact hw)]
            refine .inr (.inr ⟨hxk, hlx, ?_⟩)
            refine nwp_mono ?_ (nwp_put (ops := ops) (d := o.dst) (v := v) hsx p3 q2 h')
            rintro a2 w2 ⟨a3, ⟨⟨he, hr⟩, hl⟩, rfl⟩
            refine ⟨he, ?_⟩
            rcases ih a3 w2 _ _ hxs hr with ⟨h4, _⟩ | ⟨_, v', B', ⟨_, hb2', hb3'⟩, h5⟩
            · rw [(le hl).2, hwi] at h4; cases h4
            · have hrun' := hb3' w (hb2' (x, w) List.mem_cons_self hxi.na)
              rw [(le hl).1, hrun] at hrun'
              cases hrun'
              exact h5
      · rw [if_neg hw] at h
        have hw' : Region.wanted ox (yielded ops a.tmps) = false := by simpa using hw
        rcases ih _ w H _ hxs h with ⟨h1, h2⟩ | ⟨h1, v, B, h2, h3⟩
        · rw [wi] at h1
          refine .inl ⟨h1, ?_⟩
          rw [if_neg (by rw [wx, hw']; simp), ← Act.put_comm a undef undef p2]
          exact h2
        · rw [wi] at h1
          refine .inr ⟨h1, v, B, h2.of_exec (ei a undef).symm, ?_⟩
          rw [if_neg (by rw [wx, hw']; simp), ← Act.put_comm a undef v p2]
          exact h3

/-- a loud operation that is ready can come first -/
theorem RW.pull_loud (hsel : ∀ (i : Nat) (o : Oper), ops[i]? = some o → ∀ cs b, o.op ≠ .select cs b) {i : Nat} {o : Oper} {L2 : List Nat} (hi : ops[i]? = some o) (hik : i < k0) (hli : loud i = true) :
    ∀ (L1 : List Nat) (a : Act) (w : World) (H : List (Nat × World)) (Bs : List (Nat × (World → Prop))), (∀ x ∈ L1, Indep ops A loud x i ∧ x < k0) → RW P ops Q A loud k0 (L1 ++ i :: L2) a w H Bs →
      (Region.wanted o (yielded ops a.tmps) = false ∧ RW P ops Q A loud k0 (L1 ++ L2) (a.put o.dst undef) w H Bs) ∨
      (Region.wanted o (yielded ops a.tmps) = true ∧ o.wp P a w (fun a' w' => (∀ b ∈ Bs, A i b.1 = false → b.2 w') ∧ RW P ops Q A loud k0 (L1 ++ L2) a' w' ((i, w) :: H) Bs) NoQ) := by
  intro L1
  induction L1 with
  | nil =>
    intro a w H Bs _ h
    simp only [List.nil_append, RW, hi] at h
    by_cases hw : Region.wanted o (yielded ops a.tmps) = true
    · rw [if_pos hw] at h
      rcases h with ⟨h, _⟩ | ⟨_, h, _⟩ | ⟨_, _, h⟩
      · omega
      · rw [hli] at h; cases h
      · exact .inr ⟨hw, h⟩
    · rw [if_neg hw] at h
      exact .inl ⟨by simpa using hw, h⟩
  | cons x L1 ih =>
    intro a w H Bs hx h
    obtain ⟨hxi, hxk⟩ := hx x List.mem_cons_self
    have hxs : ∀ y ∈ L1, Indep ops A loud y i ∧ y < k0 := fun y hy => hx y (List.mem_cons_of_mem _ hy)
    have hlx : loud x = false := hxi.one.resolve_right (by rw [hli]; simp)
    simp only [List.cons_append, RW] at h ⊢
    cases hox : ops[x]? with
    | none => simp [hox] at h
    | some ox =>
      simp only [hox] at h ⊢
      obtain ⟨p1, p2, p3⟩ := Oper.apart_spec (hxi.apart ox o hox hi)
      have hso := hsel i o hi
      have hsx := hsel x ox hox
      have ex : ∀ (b : Act) u, execOp (b.put o.dst u).eval ox = execOp b.eval ox := fun b u => execOp_put (ops := ops) ox hsx b o.dst u p3
      have wx : ∀ (b : Act) u, Region.wanted ox (yielded ops (b.put o.dst u).tmps) = Region.wanted ox (yielded ops b.tmps) := fun b u => wanted_put ox b o.dst u p3
      have wi : ∀ (b : Act) u, Region.wanted o (yielded ops (b.put ox.dst u).tmps) = Region.wanted o (yielded ops b.tmps) := fun b u => wanted_put o b ox.dst u p1
      have lx := fun {a' : Act} (hl : Like a a' o.dst) => like_exec (ops := ops) hsx p3 hl
      have back : ∀ (u : Value) (Z : Act → World → Prop), o.wp P (a.put ox.dst u) w Z NoQ → o.wp P a w (fun a' w' => Like a a' o.dst ∧ Z (a'.put ox.dst u) w') NoQ := by
        intro u Z hh
        unfold Oper.wp at *
        rw [execOp_put (ops := ops) o hso a ox.dst u p1] at hh
        generalize (execOp a.eval o).run P w = r at *
        cases r with
        | ok n w' =>
          cases n <;> simp only [Oper.upon] at hh ⊢
          case value v => exact ⟨⟨v, a.defers, rfl⟩, by rw [← Act.put_comm a u v p2]; exact hh⟩
          case skip => exact ⟨⟨undef, a.defers, rfl⟩, by rw [← Act.put_comm a u undef p2]; exact hh⟩
          case defer e => exact ⟨⟨undef, e :: a.defers, rfl⟩, by rw [← Act.put_comm _ u undef p2, ← Act.put_defers]; exact hh⟩
          case enter f args =>
            refine Calls.mono hh fun e w'' he => ?_
            cases e with
            | returned v => exact ⟨⟨v, a.defers, rfl⟩, by rw [← Act.put_comm a u v p2]; exact he⟩
            | panicked c => exact he
            | outgrown => exact he
          case row row args => exact Rows.mono hh fun v w'' he => ⟨⟨v, a.defers, rfl⟩, by rw [← Act.put_comm a u v p2]; exact he⟩
        | halt y w' => cases y <;> simp only [Oper.upon] at hh ⊢ <;> exact hh
      by_cases hw : Region.wanted ox (yielded ops a.tmps) = true
      · rw [if_pos hw] at h
        rcases h with ⟨h, _⟩ | ⟨_, _, vx, Bx, hvx, h⟩ | ⟨_, h, _⟩
        · omega
        · rcases ih _ w H _ hxs h with ⟨h1, h2⟩ | ⟨h1, h2⟩
          · rw [wi] at h1
            refine .inl ⟨h1, ?_⟩
            rw [if_pos (by rw [wx]; exact hw)]
            exact .inr (.inl ⟨hxk, hlx, vx, Bx, hvx.of_exec (ex a undef), by rw [← Act.put_comm a vx undef p2]; exact h2⟩)
          · rw [wi] at h1
            refine .inr ⟨h1, nwp_mono ?_ (back vx _ h2)⟩
            rintro a1 w1 ⟨hl, he, hr⟩
            refine ⟨fun b hb => he b (List.mem_cons_of_mem _ hb), ?_⟩
            rw [if_pos (by rw [(lx hl).2]; exact hw)]
            refine .inr (.inl ⟨hxk, hlx, vx, Bx, ?_, hr⟩)
            obtain ⟨hb1, hb2, hb3⟩ := hvx
            refine ⟨he (x, Bx) List.mem_cons_self hxi.na, fun l hl' hA => ?_, fun w' hw' => by rw [(lx hl).1]; exact hb3 w' hw'⟩
            rcases List.mem_cons.1 hl' with rfl | hl'
            · exact hb1
            · exact hb2 l hl' hA
        · rw [hlx] at h; cases h
      · rw [if_neg hw] at h
        have hw' : Region.wanted ox (yielded ops a.tmps) = false := by simpa using hw
        rcases ih _ w H _ hxs h with ⟨h1, h2⟩ | ⟨h1, h2⟩
        · rw [wi] at h1
          refine .inl ⟨h1, ?_⟩
          rw [if_neg (by rw [wx, hw']; simp), ← Act.put_comm a undef undef p2]
          exact h2
        · rw [wi] at h1
          refine .inr ⟨h1, nwp_mono ?_ (back undef _ h2)⟩
          rintro a1 w1 ⟨hl, he, hr⟩
          refine ⟨he, ?_⟩
          rw [if_neg (by rw [(lx hl).2, hw']; simp)]
          exact hr
end

/-! ## The check of a region's edges -/
def edges (o : Oper) : List Nat := (o.after.toList.filter (Region.binds .any)).map (·.on)
def masks (l : List Oper) : List Nat := l.foldl (fun acc o => acc ++ [(edges o).foldl (fun s e => s ||| 2 ^ e ||| acc.getD e 0) 0]) []
def before (m : List Nat) (i j : Nat) : Bool := (m.getD i 0).testBit j
def loudOp : Op → Bool
  | .move _ | .assign _ | .pick .. | .build .. | .load .. | .binOp .. | .unOp .. | .convert .. | .fieldAddr .. | .field .. | .indexAddr .. | .index .. | .lookup .. | .extract .. | .slice .. | .makeFunc .. | .nilCheck .. => false
  | .call ⟨.builtin .len, _, _⟩ | .call ⟨.builtin .max, _, _⟩ | .call ⟨.builtin .min, _, _⟩ | .call ⟨.builtin .cap, _, _⟩ => false
  | _ => true
def isSelect : Op → Bool
  | .select .. => true
  | _ => false
def louds (l : List Oper) (i : Nat) : Bool := ((l[i]?).map fun o => loudOp o.op).getD false

def chk (l : List Oper) (m : List Nat) (k0 : Nat) : Bool :=
  (List.range l.length).all fun i => match l[i]? with
    | none => false
    | some o =>
      (edges o).all (fun e => Nat.blt e i && before m i e && (List.range i).all (fun k => !before m e k || before m i k)) &&
      (List.range l.length).all (fun k => !before m i k || (Nat.blt k i && (edges o).any (fun e => Nat.beq e k || before m e k))) &&
      !isSelect o.op &&
      (if Nat.ble k0 i then (List.range i).all (fun x => before m i x)
       else (List.range i).all (fun x => before m i x || (match l[x]? with | none => false | some ox => ox.apart l.toArray o && (!loudOp ox.op || !loudOp o.op))))

end Go.Sx
