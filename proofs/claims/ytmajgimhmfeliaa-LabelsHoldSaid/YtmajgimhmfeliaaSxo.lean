/- The layer Sx, part 15: joins and loops of models; returns; more operations. Conditions: a table of types that is right for the program. -/
import Derived.Test.YtmajgimhmfeliaaSxn
set_option linter.unusedVariables false
set_option linter.unusedSimpArgs false
namespace Go.Sx
open Go.RowKit

section
variable {P : Program} {rd : Option Nat} {c : Ctx} {n : Sz} {σ : Fr} {M L M' L' : List Fact} {Q : Exit → Act → World → Prop} {ops : Array Oper} {rest : List Oper} {K : Act → World → Prop}
variable {d : Option Tmp} {D : Nat} {ty : TypeId} {pos : String} {aft : Array Edge} {g : Option (Nat × Bool)}
variable {α β : Type} {e : Enc α} {r : Rep α}

theorem St.weakE {w : World} (h : St c M L w) (hM : SubM M M') (hL : LentAll [] L L') : St c M' L' w := by
  obtain ⟨ho, F, hF, hf⟩ := h.weak (L' := L) hM (fun _ h => h)
  exact ⟨ho, F, hF, fun f hfl => hL f hfl w (Free c F) (fun _ _ => False) (Free c F) hf (fun _ _ h => by simp at h) (fun _ h => h) (fun _ _ h => h.elim)⟩

theorem LentAll.refl (M L : List Fact) : LentAll M L L := fun f hf => by
  obtain ⟨j, hj⟩ := List.getElem?_of_mem hf
  exact Lent.fact j hj

/-! joins -/
def MidI {A B : Type} (c : Ctx) (n : Sz) (C : A → Prop) (σI : A → B → Fr) (MI LI : A → B → List Fact) (a : Act) (w : World) : Prop := ∃ x y, C x ∧ Sub n (σI x y) a ∧ St c (MI x y) (LI x y) w

theorem J.midI {A B : Type} {x : Code} (C : A → Prop) (σI : A → B → Fr) (MI LI : A → B → List Fact) (h1 : J c n σ M L (x.wpr rd P (Exit.then (MidI c n C σI MI LI) Q))) (h2 : ∀ a b, C a → J c n (σI a b) (MI a b) (LI a b) K) :
    J c n σ M L (x.wpr rd P (Exit.then K Q)) := fun a w s t => wpr_mono (fun e a' w' q => by
  cases e with
  | normal => obtain ⟨z, y, hC, hs, ht⟩ := q; exact h2 z y hC a' w' hs ht
  | exit id => exact q
  | goto l => exact q
  | ret => exact q
  | panic ch => exact q
  | outgrown => exact q) (h1 a w s t)

theorem J.meetI {A B : Type} {C : A → Prop} {σI : A → B → Fr} {MI LI : A → B → List Fact} (x : A) (y : B) (hC : C x) (hs : SubF σ (σI x y)) (hM : SubM M (MI x y)) (hL : LentAll [] L (LI x y)) : J c n σ M L (MidI c n C σI MI LI) :=
  fun _ _ s t => ⟨x, y, hC, s.weak hs, t.weakE hM hL⟩

/-! loops -/
def InvI {A B R : Type} (c : Ctx) (n : Sz) (step : A → (A → Option R) → Option R) (r : R) (σI : A → B → Fr) (MI LI : A → B → List Fact) (k : Nat) (a : Act) (w : World) : Prop :=
  ∃ x y, iter step k x = some r ∧ Sub n (σI x y) a ∧ St c (MI x y) (LI x y) w

theorem J.loopI {A B R : Type} {body : Code} (step : A → (A → Option R) → Option R) {r : R} {fuel : Nat} (σI : A → B → Fr) (MI LI : A → B → List Fact) (a0 : A) (b0 : B) (h : iter step fuel a0 = some r)
    (hs : SubF σ (σI a0 b0)) (hM : SubM M (MI a0 b0)) (hL : LentAll [] L (LI a0 b0))
    (round : ∀ k a b, step a (iter step k) = some r → J c n (σI a b) (MI a b) (LI a b) (body.wpr rd P (Exit.then (InvI c n step r σI MI LI k) Q))) : J c n σ M L ((Code.loop body).wpr rd P Q) := by
  intro a w s t
  refine J.loop (X := Nat × A × B) (fun x => iter step x.1 x.2.1 = some r) (fun x => σI x.2.1 x.2.2) (fun x => MI x.2.1 x.2.2) (fun x => LI x.2.1 x.2.2) (fun x => x.1) (fuel, a0, b0) h (SubF.refl _) (SubM.refl _) (fun _ h => h) ?_ a w (s.weak hs) (t.weakE hM hL)
  rintro ⟨k, x, y⟩ hC
  cases k with
  | zero => cases hC
  | succ k =>
    refine J.mono (round k x y hC) fun a w h => wpr_mono (fun e a' w' q => ?_) h
    cases e with
    | normal => obtain ⟨x', y', hC', hs', ht'⟩ := q; exact ⟨(k, x', y'), hC', Nat.lt_succ_self k, hs', ht'⟩
    | exit id => exact q
    | goto l => exact q
    | ret => exact q
    | panic ch => exact q
    | outgrown => exact q

theorem J.againI {A B R : Type} {step : A → (A → Option R) → Option R} {r : R} {k : Nat} {σI : A → B → Fr} {MI LI : A → B → List Fact} (x : A) (y : B) (h : iter step k x = some r) (hs : SubF σ (σI x y)) (hM : SubM M (MI x y)) (hL : LentAll [] L (LI x y)) :
    J c n σ M L (InvI c n step r σI MI LI k) := fun _ _ s t => ⟨x, y, h, s.weak hs, t.weakE hM hL⟩

/-! regions that draw -/
variable {l : List Oper} {m : List Nat} {k0 : Nat} {H Bs : List (Nat × List Fact × List Fact)} {rs : List Nat}
theorem JR.qt {i dd : Nat} {op : Op} {v : Value} {Mx Lx : List Fact} (hi : l[i]? = some ⟨some dd, op, ty, pos, aft, none⟩) (hM : SubM M Mx) (hL : SubL L Lx)
    (hy : Y P c n σ Mx Lx ⟨some dd, op, ty, pos, aft, none⟩ v) (hH : HistOk (before m i) Mx Lx H)
    (h : JR c n ((dd, v) :: σ) M L H ((i, Mx, Lx) :: Bs) (RW P l.toArray Q (before m) (louds l) k0 rs))
    (hk : Nat.blt i k0 = true := by exact rfl) (hl : loudOp op = false := by exact rfl) (hd : Nat.blt dd n.sz = true := by exact rfl) : JR c n σ M L H Bs (RW P l.toArray Q (before m) (louds l) k0 (i :: rs)) :=
  JR.quiet Mx Lx hi hk hl hy ⟨hM, hL⟩ hH hd h
theorem JR.qtG {i dd : Nat} {op : Op} {v : Value} {j : Nat} {b : Bool} {Mx Lx : List Fact} (hi : l[i]? = some ⟨some dd, op, ty, pos, aft, some (j, b)⟩) (hM : SubM M Mx) (hL : SubL L Lx)
    (hy : Y P c n σ Mx Lx ⟨some dd, op, ty, pos, aft, some (j, b)⟩ v) (hH : HistOk (before m i) Mx Lx H)
    (h : JR c n ((dd, v) :: σ) M L H ((i, Mx, Lx) :: Bs) (RW P l.toArray Q (before m) (louds l) k0 rs))
    (hk : Nat.blt i k0 = true := by exact rfl) (hl : loudOp op = false := by exact rfl) (hg : gv l.toArray σ j = some b := by exact rfl) (hd : Nat.blt dd n.sz = true := by exact rfl) : JR c n σ M L H Bs (RW P l.toArray Q (before m) (louds l) k0 (i :: rs)) :=
  JR.guardY Mx Lx hi hk hl hg hy ⟨hM, hL⟩ hH hd h

/-! returns -/
def rvSem (tmps : Array Value) : ResultVar → Sem Value
  | .tmp t => pure (tmps.getD t undef)
  | .cell a t => do loadVar t (← asAddr (tmps.getD a undef))
theorem results_rv (fn : Func) (tmps : Array Value) : results fn tmps = (do let vs ← fn.results.mapM (rvSem tmps); pure (if h : vs.size = 1 then vs[0] else .tuple vs)) := rfl
def RV (P : Program) (c : Ctx) (n : Sz) (σ : Fr) (M L : List Fact) (rv : ResultVar) (v : Value) : Prop := ∀ a w, Sub n σ a → St c M L w → (rvSem a.tmps rv).run P w = .ok v w

theorem RV.tmp {t : Tmp} {v : Value} (h : lk σ t = some v) : RV P c n σ M L (.tmp t) v := fun a w s _ => by simp [rvSem, s.slot t v h]
theorem RV.cell [Tab P] (i : Nat) {q : Tmp} {T T' : TypeId} {s2 : Nat} {z : Value} {dT : TypeDesc} {b : Nat} {cs : List Value} (hr : lk σ q = some (.pointer (some ⟨b, 0, none⟩))) (hB : M[i]? = some (Blk b cs T')) (hT : Tab.tab P T = some ⟨dT, cs.length, s2, z⟩) (hd : aggD dT = true) :
    RV P c n σ M L (.cell q T) (.agg cs.toArray) := fun a w s t => by
  obtain ⟨F, hF⟩ := t.res hB
  simp [rvSem, s.slot q _ hr, asAddr, run_cell hF hT hd]
theorem RV.cell1 [Tab P] (i : Nat) {q : Tmp} {T T' : TypeId} {s1 s2 : Nat} {z v : Value} {dT : TypeDesc} {b : Nat} (hr : lk σ q = some (.pointer (some ⟨b, 0, none⟩))) (hB : M[i]? = some (Blk b [v] T')) (hT : Tab.tab P T = some ⟨dT, s1, s2, z⟩) (hd : aggD dT = false) :
    RV P c n σ M L (.cell q T) v := fun a w s t => by
  obtain ⟨F, hF⟩ := t.res hB
  have := Blk.cell hF (o := 0) (v := v) rfl
  simp [rvSem, s.slot q _ hr, asAddr, loadVar, (Tab.ok hT).run_agg w, hd, load, Sem.run, this]

variable {A : Type} {ret : A → Value} {MO LO : A → List Fact → List Fact} {fn : Func}
theorem J.retG0 (x : A) (hx : ret x = .tuple #[]) (hres : fn.results = #[]) (ex : Exit) (he : ex = .ret ∨ ex = .normal) (hM : SubM M (MO x [])) (hL : LentAll [] L (LO x [])) (hds : n.ds = [] := by rfl) : J c n σ M L (bodyPost P fn (Post c ret MO LO) ex) := fun a w s t =>
  J.post x ex he (fun a w s t => by simp [results, hres, hx]) hM (fun _ h => h) hds a w s (t.weakE (SubM.refl _) hL)
theorem J.retG1 (x : A) {r1 : ResultVar} {v1 : Value} (hx : ret x = v1) (hres : fn.results = #[r1]) (h1 : RV P c n σ M L r1 v1) (hM : SubM M (MO x [])) (hL : LentAll [] L (LO x [])) (hds : n.ds = [] := by rfl) : J c n σ M L (bodyPost P fn (Post c ret MO LO) .ret) := fun a w s t => by
  have hr : (results fn a.tmps).run P w = .ok (ret x) w := by
    have := h1 a w s t
    simp only [results_rv, hres]
    simp [hx, this]
  exact body_end (.inl rfl) (s.defers.trans hds) hr ⟨x, rfl, t.weakE hM hL⟩
theorem J.retG2 (x : A) {r1 r2 : ResultVar} {v1 v2 : Value} (hx : ret x = .tuple #[v1, v2]) (hres : fn.results = #[r1, r2]) (h1 : RV P c n σ M L r1 v1) (h2 : RV P c n σ M L r2 v2) (hM : SubM M (MO x [])) (hL : LentAll [] L (LO x [])) (hds : n.ds = [] := by rfl) : J c n σ M L (bodyPost P fn (Post c ret MO LO) .ret) := fun a w s t => by
  have hr : (results fn a.tmps).run P w = .ok (ret x) w := by
    have h1 := h1 a w s t
    have h2 := h2 a w s t
    simp only [results_rv, hres]
    simp [hx, h1, h2]
  exact body_end (.inl rfl) (s.defers.trans hds) hr ⟨x, rfl, t.weakE hM hL⟩
theorem J.retG3 (x : A) {r1 r2 r3 : ResultVar} {v1 v2 v3 : Value} (hx : ret x = .tuple #[v1, v2, v3]) (hres : fn.results = #[r1, r2, r3]) (h1 : RV P c n σ M L r1 v1) (h2 : RV P c n σ M L r2 v2) (h3 : RV P c n σ M L r3 v3) (hM : SubM M (MO x [])) (hL : LentAll [] L (LO x [])) (hds : n.ds = [] := by rfl) : J c n σ M L (bodyPost P fn (Post c ret MO LO) .ret) := fun a w s t => by
  have hr : (results fn a.tmps).run P w = .ok (ret x) w := by
    have h1 := h1 a w s t
    have h2 := h2 a w s t
    have h3 := h3 a w s t
    simp only [results_rv, hres]
    simp [hx, h1, h2, h3]
  exact body_end (.inl rfl) (s.defers.trans hds) hr ⟨x, rfl, t.weakE hM hL⟩

/-! numbers -/
/-- wraparound, quick where nothing wraps -/
def wI : IntKind → Int → Int
  | .i64, x => if -9223372036854775808 ≤ x ∧ x ≤ 9223372036854775807 then x else IntKind.i64.wrap x
  | .u32, x => if 0 ≤ x ∧ x ≤ 4294967295 then x else IntKind.u32.wrap x
  | k, x => k.wrap x
theorem wI_eq (k : IntKind) (x : Int) : wI k x = k.wrap x := by
  unfold wI
  split
  · split
    · rename_i h; exact (wrap64_in h.1 h.2).symm
    · rfl
  · split
    · rename_i h
      unfold IntKind.wrap
      simp only [IntKind.bits, IntKind.signed]
      simp
      omega
    · rfl
  · rfl
theorem Y.addW {t t' : TypeId} {x y : Operand} {k : IntKind} {p q : Int} (hx : ev σ x = some (.int k p)) (hy : ev σ y = some (.int k q)) :
    Y P c n σ M L ⟨d, .binOp .add t x y t', ty, pos, aft, g⟩ (.int k (wI k (p + q))) := fun a w s _ => by
  simp [wI_eq, execOp, s.eval hx, s.eval hy, binOp, Op.intArith, guard_int]
theorem Y.subW {t t' : TypeId} {x y : Operand} {k : IntKind} {p q : Int} (hx : ev σ x = some (.int k p)) (hy : ev σ y = some (.int k q)) :
    Y P c n σ M L ⟨d, .binOp .sub t x y t', ty, pos, aft, g⟩ (.int k (wI k (p - q))) := fun a w s _ => by
  simp [wI_eq, execOp, s.eval hx, s.eval hy, binOp, Op.intArith, guard_int]
theorem Y.mulW {t t' : TypeId} {x y : Operand} {k : IntKind} {p q : Int} (hx : ev σ x = some (.int k p)) (hy : ev σ y = some (.int k q)) :
    Y P c n σ M L ⟨d, .binOp .mul t x y t', ty, pos, aft, g⟩ (.int k (wI k (p * q))) := fun a w s _ => by
  simp [wI_eq, execOp, s.eval hx, s.eval hy, binOp, Op.intArith, guard_int]
theorem Y.quoW {t t' : TypeId} {x y : Operand} {k : IntKind} {p q : Int} (hx : ev σ x = some (.int k p)) (hy : ev σ y = some (.int k q)) (h : q ≠ 0) :
    Y P c n σ M L ⟨d, .binOp .quo t x y t', ty, pos, aft, g⟩ (.int k (wI k (p.tdiv q))) := fun a w s _ => by
  simp [wI_eq, execOp, s.eval hx, s.eval hy, binOp, Op.intDiv, guard_int, h]
def bAnd (k : IntKind) (x y : Int) : Int := k.wrap (BitVec.ofInt k.bits x &&& BitVec.ofInt k.bits y).toNat
def bOr (k : IntKind) (x y : Int) : Int := k.wrap (BitVec.ofInt k.bits x ||| BitVec.ofInt k.bits y).toNat
def bXor (k : IntKind) (x y : Int) : Int := k.wrap (BitVec.ofInt k.bits x ^^^ BitVec.ofInt k.bits y).toNat
def bAndNot (k : IntKind) (x y : Int) : Int := k.wrap (BitVec.ofInt k.bits x &&& ~~~BitVec.ofInt k.bits y).toNat
def bShl (k : IntKind) (x y : Int) : Int := k.wrap (x * 2 ^ (min y.toNat k.bits))
def bShr (k : IntKind) (x y : Int) : Int := x.fdiv (2 ^ (min y.toNat k.bits))
theorem Y.and {t t' : TypeId} {x y : Operand} {k : IntKind} {p q : Int} (hx : ev σ x = some (.int k p)) (hy : ev σ y = some (.int k q)) :
    Y P c n σ M L ⟨d, .binOp .and t x y t', ty, pos, aft, g⟩ (.int k (bAnd k p q)) := fun a w s _ => by
  simp [execOp, s.eval hx, s.eval hy, binOp, Op.intBits, guard_int, bAnd]
theorem Y.or {t t' : TypeId} {x y : Operand} {k : IntKind} {p q : Int} (hx : ev σ x = some (.int k p)) (hy : ev σ y = some (.int k q)) :
    Y P c n σ M L ⟨d, .binOp .or t x y t', ty, pos, aft, g⟩ (.int k (bOr k p q)) := fun a w s _ => by
  simp [execOp, s.eval hx, s.eval hy, binOp, Op.intBits, guard_int, bOr]
theorem Y.xor {t t' : TypeId} {x y : Operand} {k : IntKind} {p q : Int} (hx : ev σ x = some (.int k p)) (hy : ev σ y = some (.int k q)) :
    Y P c n σ M L ⟨d, .binOp .xor t x y t', ty, pos, aft, g⟩ (.int k (bXor k p q)) := fun a w s _ => by
  simp [execOp, s.eval hx, s.eval hy, binOp, Op.intBits, guard_int, bXor]
theorem Y.andNot {t t' : TypeId} {x y : Operand} {k : IntKind} {p q : Int} (hx : ev σ x = some (.int k p)) (hy : ev σ y = some (.int k q)) :
    Y P c n σ M L ⟨d, .binOp .andNot t x y t', ty, pos, aft, g⟩ (.int k (bAndNot k p q)) := fun a w s _ => by
  simp [execOp, s.eval hx, s.eval hy, binOp, Op.intBits, guard_int, bAndNot]
theorem Y.shl {t t' : TypeId} {x y : Operand} {k k' : IntKind} {p q : Int} (hx : ev σ x = some (.int k p)) (hy : ev σ y = some (.int k' q)) (h : 0 ≤ q) :
    Y P c n σ M L ⟨d, .binOp .shl t x y t', ty, pos, aft, g⟩ (.int k (bShl k p q)) := fun a w s _ => by
  have : ¬ q < 0 := by omega
  simp [execOp, s.eval hx, s.eval hy, binOp, Op.shift, guard_int, bShl, this]
theorem Y.shr {t t' : TypeId} {x y : Operand} {k k' : IntKind} {p q : Int} (hx : ev σ x = some (.int k p)) (hy : ev σ y = some (.int k' q)) (h : 0 ≤ q) :
    Y P c n σ M L ⟨d, .binOp .shr t x y t', ty, pos, aft, g⟩ (.int k (bShr k p q)) := fun a w s _ => by
  have : ¬ q < 0 := by omega
  simp [execOp, s.eval hx, s.eval hy, binOp, Op.shift, guard_int, bShr, this]
theorem Y.conv [Tab P] {t t' : TypeId} {x : Operand} {k k' : IntKind} {p : Int} {s1 s2 s3 s4 : Nat} {z z' : Value} (hx : ev σ x = some (.int k p)) (ht : Tab.tab P t = some ⟨.int k, s1, s2, z⟩) (ht' : Tab.tab P t' = some ⟨.int k', s3, s4, z'⟩) :
    Y P c n σ M L ⟨d, .convert t t' x, ty, pos, aft, g⟩ (.int k' (wI k' p)) := fun a w s _ => by
  simp [wI_eq, execOp, s.eval hx, convert, (Tab.ok ht).run_und w, (Tab.ok ht').run_und w, Conv.intToInt]
theorem Y.neg {t : TypeId} {x : Operand} {k : IntKind} {p : Int} (hx : ev σ x = some (.int k p)) : Y P c n σ M L ⟨d, .unOp .neg t x, ty, pos, aft, g⟩ (.int k (wI k (0 - p))) := fun a w s _ => by
  simp [wI_eq, execOp, s.eval hx, Op.unary, Op.intArith]
theorem run_eqB [Tab P] {t : TypeId} {s1 s2 : Nat} {z : Value} (ht : Tab.tab P t = some ⟨.bool, s1, s2, z⟩) (p q : Bool) (w : World) : (Op.equal t (.bool p) (.bool q)).run P w = .ok (p == q) w := by
  have key : ∀ m : Nat, (Op.equalIn (m + 1) t (.bool p) (.bool q)).run P w = .ok (p == q) w := fun m => by simp [Op.equalIn, (Tab.ok ht).run_und w]
  exact key 9999
theorem Y.eqlB [Tab P] {t t' : TypeId} {x y : Operand} {p q : Bool} {s1 s2 : Nat} {z : Value} (hx : ev σ x = some (.bool p)) (hy : ev σ y = some (.bool q)) (ht : Tab.tab P t = some ⟨.bool, s1, s2, z⟩) :
    Y P c n σ M L ⟨d, .binOp .eql t x y t', ty, pos, aft, g⟩ (.bool (p == q)) := fun a w s _ => by
  simp [execOp, s.eval hx, s.eval hy, binOp, eqGuard, run_eqB ht]
theorem Y.neqB [Tab P] {t t' : TypeId} {x y : Operand} {p q : Bool} {s1 s2 : Nat} {z : Value} (hx : ev σ x = some (.bool p)) (hy : ev σ y = some (.bool q)) (ht : Tab.tab P t = some ⟨.bool, s1, s2, z⟩) :
    Y P c n σ M L ⟨d, .binOp .neq t x y t', ty, pos, aft, g⟩ (.bool (p != q)) := fun a w s _ => by
  simp [execOp, s.eval hx, s.eval hy, binOp, eqGuard, run_eqB ht, bne]
end
end Go.Sx
