/- Models of functions with their proofs, by program (gen/xt.py), and plain laws, in one text. Conditions: none. -/
import Derived.Test.YtemhmmcakmidkaaZFTrFoPa1
section
set_option linter.unusedVariables false
set_option linter.unusedSimpArgs false
namespace Go.Proofs.Ytemhmmcakmidkaa
open Go.Sx
set_option linter.unusedVariables false
set_option linter.unusedSimpArgs false
def law03_FamilyTreesFollowParents_k3 (fuel : Nat) (a23 : Unit) : Option (Bool) :=
  Option.bind (m_law03_awake fuel ) fun r25 => (some (r25))
def law03_FamilyTreesFollowParents_s1 (fuel : Nat) (a8 : List (Int)) (r16 : List (Int)) (a30 : Int) (ag29 : (Int) → Option (Bool)) : Option (Bool) :=
  if a30 < (List.length a8 : Int) then (ck (0 ≤ a30 ∧ a30 < (List.length r16 : Int)) (ck (0 ≤ a30 ∧ a30 < (List.length a8 : Int)) (ck (0 ≤ (at' a8 a30) ∧ (at' a8 a30) < (List.length r16 : Int)) (if (at' r16 a30) ≠ (wI .i64 ((at' r16 (at' a8 a30)) + (1 : Int))) then (some (false)) else (ag29 (wI .i64 (a30 + (1 : Int)))))))) else (law03_FamilyTreesFollowParents_k3 fuel (()))
def law03_FamilyTreesFollowParents_k2 (fuel : Nat) (a8 : List (Int)) (r16 : List (Int)) (a20 : Bool) : Option (Bool) :=
  if a20 = true then (some (false)) else (iter (law03_FamilyTreesFollowParents_s1 fuel a8 r16) fuel (1 : Int))
def law03_FamilyTreesFollowParents_k1 (fuel : Nat) (a8 : List (Int)) : Option (Bool) :=
  Option.bind (m_family_FromParents fuel a8) fun r10 => (Option.bind (m_graph_Distances fuel ((r10.1.1, r10.1.2)) (0 : Int)) fun r16 => (if r10.2 ≠ (0 : Int) then (law03_FamilyTreesFollowParents_k2 fuel a8 r16 (true)) else (Option.bind (m_graph_Tree fuel ((r10.1.1, r10.1.2))) fun r39 => (if (!r39) = true then (law03_FamilyTreesFollowParents_k2 fuel a8 r16 (true)) else (law03_FamilyTreesFollowParents_k2 fuel a8 r16 (decide ((List.length r16 : Int) ≠ (List.length a8 : Int))))))))
def law03_FamilyTreesFollowParents_k4 (fuel : Nat) (p0 : List (Int)) (a47 : Int × List (Int)) (ag46 : (Int × List (Int)) → Option (Bool)) (a51 : Bool) : Option (Bool) :=
  if a51 = true then (ck (0 ≤ a47.1 ∧ a47.1 < (List.length p0 : Int)) (Option.bind (m_made_Mod fuel (at' p0 a47.1) (List.length a47.2 : Int)) fun r55 => (ck ((List.length a47.2 : Int) + (List.length ([r55]) : Int) ≤ 1099511627) (ag46 ((wI .i64 (a47.1 + (1 : Int))), (a47.2 ++ [r55])))))) else (law03_FamilyTreesFollowParents_k1 fuel (a47.2))
def law03_FamilyTreesFollowParents_s2 (fuel : Nat) (p0 : List (Int)) (a47 : Int × List (Int)) (ag46 : (Int × List (Int)) → Option (Bool)) : Option (Bool) :=
  if a47.1 < (List.length p0 : Int) then (law03_FamilyTreesFollowParents_k4 fuel p0 a47 ag46 (decide ((List.length a47.2 : Int) < (24 : Int)))) else (law03_FamilyTreesFollowParents_k4 fuel p0 a47 ag46 (false))
def m_law03_FamilyTreesFollowParents (fuel : Nat) (p0 : List (Int)) : Option (Bool) :=
  if (40 : Int) < (List.length p0 : Int) then (Option.bind (m_law03_awake fuel ) fun r2 => (some (r2))) else (iter (law03_FamilyTreesFollowParents_s2 fuel p0) fuel ((0 : Int), ([ (-1 : Int)])))

set_option maxHeartbeats 4000000 in
set_option maxRecDepth 20000 in
theorem t_law03_FamilyTreesFollowParents (fuel : Nat) {p0 : List (Int)} (v0 : Value) (r : Bool) (h : m_law03_FamilyTreesFollowParents fuel p0 = some r) :
    Meets Try.prog 14 #[v0] [Sl RI64 v0 p0] (fun x : Unit => Value.bool (r)) (fun x l => l) (fun _ l => l) := by
  refine Meets.of (vs := [v0]) Try.func14 rfl Try.ntmps14 rfl fun c => ?_
  unfold m_law03_FamilyTreesFollowParents at h
  refine J.seq ?_
  refine J.region ?_
  refine J.quiet (Y.assign rfl) rfl ?_
  refine J.done ?_
  refine J.thenN ?_
  refine J.seq ?_
  refine J.seq ?_
  refine J.region ?_
  refine J.quiet (Y.move rfl) rfl ?_
  refine J.quiet (Y.lenS rfl (Lent.fact 0 rfl) rfl) rfl ?_
  refine J.quiet (Y.gtr rfl rfl) rfl ?_
  refine J.done ?_
  refine J.thenN ?_
  refine J.condD (by exact rfl) (fun hp1 => ?_) (fun hp1 => ?_)
  · replace h := ifP hp1 h
    refine J.seq ?_
    refine J.region ?_
    replace h := bnd h; obtain ⟨r2, hr3, h⟩ := h
    refine J.loud (Loud.callL body18 (t_law03_awake fuel  r2 hr3) rfl (LentAll.nil) (fun _ _ => rfl)) rfl fun x4 => ?_
    refine J.quiet (Y.assign rfl) rfl ?_
    refine J.done ?_
    refine J.thenN ?_
    refine J.ret ?_
    refine J.thenR ?_
    obtain rfl := Option.some.inj h
    exact J.retG1 (()) rfl rfl (RV.tmp rfl) (SubM.refl _) LentAll.nil
  · replace h := ifN hp1 h
    refine J.skip ?_
    refine J.thenN ?_
    refine J.seq ?_
    refine J.region ?_
    refine J.loud (Loud.buildS (e := EI64) [(-1 : Int)] [(0, Value.int .i64 (-1 : Int))] rfl rfl rfl rfl (fill_1_1 (Value.int .i64 (-1 : Int)) rfl) rfl rfl rfl) rfl fun u5 => ?_
    refine J.quiet (Y.assign rfl) rfl ?_
    refine J.done ?_
    refine J.thenN ?_
    refine J.seq ?_
    refine J.midI (A := List (Int)) (B := Value) (fun a8 => law03_FamilyTreesFollowParents_k1 fuel a8 = some r) (fun a8 b9 => [(3, b9)]) (fun a8 b9 => [Ar EI64 b9 a8]) (fun a8 b9 => [Sl RI64 v0 p0]) ?_ ?_
    · refine J.seq ?_
      refine J.region ?_
      refine J.quiet (Y.assign rfl) rfl ?_
      refine J.done ?_
      refine J.thenN ?_
      refine J.block ?_
      refine J.loopI (A := Int × List (Int)) (B := Value) (law03_FamilyTreesFollowParents_s2 fuel p0) (fun a47 b48 => [(0, v0), (3, b48), (4, Value.int .i64 (a47.1))]) (fun a47 b48 => [Ar EI64 b48 a47.2]) (fun a47 b48 => [Sl RI64 v0 p0]) ((0 : Int), ([ (-1 : Int)])) (u5) h (by repeat (first | exact SubF.nil | refine SubF.cons rfl ?_)) (SubM.refl _) (LentAll.refl _ _) ?_
      clear h
      intro k49 a47 b48 h
      unfold law03_FamilyTreesFollowParents_s2 at h
      refine J.seq ?_
      refine J.seq ?_
      refine J.midI (A := Bool) (B := Unit) (fun a51 => law03_FamilyTreesFollowParents_k4 fuel p0 a47 (iter (law03_FamilyTreesFollowParents_s2 fuel p0) k49) a51 = some r) (fun a51 b52 => [(0, v0), (3, b48), (4, Value.int .i64 (a47.1)), (22, Value.bool (a51))]) (fun a51 b52 => [Ar EI64 b48 a47.2]) (fun a51 b52 => [Sl RI64 v0 p0]) ?_ ?_
      · refine J.region ?_
        refine J.quiet (Y.move rfl) rfl ?_
        refine J.quiet (Y.move rfl) rfl ?_
        refine J.quiet (Y.lenS rfl (Lent.fact 0 rfl) rfl) rfl ?_
        refine J.quiet (Y.lss rfl rfl) rfl ?_
        refine J.quiet (Y.move rfl) rfl ?_
        refine J.guardD (by exact rfl) (by exact rfl) (fun hp61 => ?_) (fun hp61 => ?_)
        · replace h := ifP hp61 h
          refine J.guardY rfl (Y.move rfl) rfl ?_
          refine J.guardY rfl (Y.lenS rfl (Lent.ar (Lent.res 0 rfl) FI64) rfl) rfl ?_
          refine J.guardY rfl (Y.lss rfl rfl) rfl ?_
          refine J.quiet (Y.pickT rfl rfl) rfl ?_
          refine J.done ?_
          refine J.thenN ?_
          exact J.meetI (decide ((List.length a47.2 : Int) < (24 : Int))) (()) h (by repeat (first | exact SubF.nil | refine SubF.cons rfl ?_)) (SubM.refl _) (LentAll.refl _ _)
        · replace h := ifN hp61 h
          refine J.guardN rfl rfl rfl ?_
          refine J.guardN rfl rfl rfl ?_
          refine J.guardN rfl rfl rfl ?_
          refine J.quiet (Y.pickF rfl rfl) rfl ?_
          refine J.done ?_
          refine J.thenN ?_
          exact J.meetI (false) (()) h (by repeat (first | exact SubF.nil | refine SubF.cons rfl ?_)) (SubM.refl _) (LentAll.refl _ _)
      · clear h
        intro a51 b52 h
        unfold law03_FamilyTreesFollowParents_k4 at h
        refine J.cond (by exact rfl) (fun hp53 => ?_) (fun hp53 => ?_)
        · replace h := ifP hp53 h
          refine J.skip ?_
          refine J.thenN ?_
          refine J.seq ?_
          refine J.block ?_
          refine J.region ?_
          refine J.quiet (Y.move rfl) rfl ?_
          refine J.quiet (Y.move rfl) rfl ?_
          refine J.quiet (Y.move rfl) rfl ?_
          replace h := ck_some h; obtain ⟨hc54, h⟩ := h
          refine J.quiet (Y.indexS rfl rfl (Lent.fact 0 rfl) rfl rfl hc54) rfl ?_
          refine J.quiet (Y.loadS0 rfl (Lent.fact 0 rfl) rfl rfl rfl RI64c0 hc54) rfl ?_
          refine J.quiet (Y.move rfl) rfl ?_
          refine J.quiet (Y.lenS rfl (Lent.ar (Lent.res 0 rfl) FI64) rfl) rfl ?_
          replace h := bnd h; obtain ⟨r55, hr56, h⟩ := h
          refine J.loud (Loud.callL body34 (t_made_Mod fuel  r55 hr56) rfl (LentAll.nil) (fun _ _ => rfl)) rfl fun x57 => ?_
          refine J.loud (Loud.buildS (e := EI64) [r55] [(0, Value.int .i64 (r55))] rfl rfl rfl rfl (fill_1_1 (Value.int .i64 (r55)) rfl) rfl rfl rfl) rfl fun u58 => ?_
          replace h := ck_some h; obtain ⟨hc60, h⟩ := h
          refine J.loud (Loud.appendL 1 FI64 rfl rfl rfl (Lent.ar (Lent.res 0 rfl) FI64) rfl rfl rfl rfl hc60 rfl) rfl fun u59 => ?_
          refine J.quiet (Y.assign rfl) rfl ?_
          refine J.done ?_
          refine J.inN ?_
          refine J.thenN ?_
          refine J.region ?_
          refine J.quiet (Y.move rfl) rfl ?_
          refine J.quiet (Y.addW rfl rfl) rfl ?_
          refine J.quiet (Y.assign rfl) rfl ?_
          refine J.done ?_
          refine J.thenN ?_
          exact J.againI ((wI .i64 (a47.1 + (1 : Int))), (a47.2 ++ [r55])) (u59) h (by repeat (first | exact SubF.nil | refine SubF.cons rfl ?_)) (SubM.cons 1 rfl (SubM.nil)) (LentAll.refl _ _)
        · replace h := ifBN hp53 h
          refine J.exit ?_
          refine J.thenX ?_
          refine J.thenX ?_
          refine J.inX ?_
          refine J.thenN ?_
          exact J.meetI (a47.2) (b48) h (by repeat (first | exact SubF.nil | refine SubF.cons rfl ?_)) (SubM.refl _) (LentAll.refl _ _)
    · clear h
      intro a8 b9 h
      unfold law03_FamilyTreesFollowParents_k1 at h
      refine J.seq ?_
      refine J.region ?_
      refine J.quiet (Y.move rfl) rfl ?_
      replace h := bnd h; obtain ⟨r10, hr11, h⟩ := h
      refine J.loud (Loud.callL body30 (t_family_FromParents fuel b9 r10 hr11) rfl (LentAll.cons (Lent.ar (Lent.res 0 rfl) FI64) (LentAll.nil)) (fun _ _ => rfl)) rfl fun x12 => ?_
      refine J.quiet (Y.move rfl) rfl ?_
      refine J.quiet (Y.extract rfl rfl) rfl ?_
      refine J.quiet (Y.extract rfl rfl) rfl ?_
      refine J.loud (Loud.alloc (cs := [Value.slice none 0 0, Value.slice none 0 0]) rfl rfl) rfl fun b13 => ?_
      refine J.know (Know.one ((Lent.ar (Lent.res 1 rfl) FI64))) fun ho14 => ?_
      refine J.know (Know.one (Lent.sl (Lent.rows (i := 2) (j := 3) rfl rfl FI64I64p))) fun ho15 => ?_
      refine J.storeAll 0 (vs := [x12.1, x12.2.1]) rfl rfl (all1 ho14 (all1 ho15 rfl)) rfl rfl rfl ?_
      refine J.quiet (Y.assign rfl) rfl ?_
      refine J.done ?_
      refine J.thenN ?_
      refine J.seq ?_
      refine J.region ?_
      refine J.quiet (Y.loadBAll 0 rfl rfl rfl rfl) rfl ?_
      replace h := bnd h; obtain ⟨r16, hr17, h⟩ := h
      refine J.loud (Loud.callL body35 (t_graph_Distances fuel x12.1 x12.2.1 (List.zip x12.2.2 r10.1.2) r16 hr17) rfl (LentAll.cons (Lent.ar (Lent.res 1 rfl) FI64) (LentAll.cons (Lent.rows (i := 2) (j := 3) rfl rfl FI64I64p) (LentAll.nil))) (fun _ _ => rfl)) rfl fun x18 => ?_
      refine J.quiet (Y.assign rfl) rfl ?_
      refine J.done ?_
      refine J.thenN ?_
      refine J.seq ?_
      refine J.seq ?_
      refine J.midI (A := Bool) (B := Unit) (fun a20 => law03_FamilyTreesFollowParents_k2 fuel a8 r16 a20 = some r) (fun a20 b21 => [(3, b9), (7, x18), (55, Value.bool (a20))]) (fun a20 b21 => [Ar EI64 x18 r16, Ar EI64 b9 a8]) (fun a20 b21 => [Sl RI64 v0 p0]) ?_ ?_
      · refine J.region ?_
        refine J.quiet (Y.move rfl) rfl ?_
        refine J.quiet (Y.neq rfl rfl) rfl ?_
        refine J.quiet (Y.move rfl) rfl ?_
        refine J.guardD (by exact rfl) (by exact rfl) (fun hp38 => ?_) (fun hp38 => ?_)
        · replace h := ifP hp38 h
          refine J.guardN rfl rfl rfl ?_
          refine J.guardN rfl rfl rfl ?_
          refine J.guardN rfl rfl rfl ?_
          refine J.quiet (Y.pickT rfl rfl) rfl ?_
          refine J.quiet (Y.move rfl) rfl ?_
          refine J.guardN rfl rfl rfl ?_
          refine J.guardN rfl rfl rfl ?_
          refine J.guardN rfl rfl rfl ?_
          refine J.guardN rfl rfl rfl ?_
          refine J.guardN rfl rfl rfl ?_
          refine J.quiet (Y.pickT rfl rfl) rfl ?_
          refine J.done ?_
          refine J.thenN ?_
          exact J.meetI (true) (()) h (by repeat (first | exact SubF.nil | refine SubF.cons rfl ?_)) (SubM.cons 0 rfl (SubM.cons 4 rfl (SubM.nil))) (LentAll.refl _ _)
        · replace h := ifN hp38 h
          refine J.guardY rfl (Y.loadBAll 1 rfl rfl rfl rfl) rfl ?_
          replace h := bnd h; obtain ⟨r39, hr40, h⟩ := h
          refine J.loudG rfl (Loud.callL body41 (t_graph_Tree fuel x12.1 x12.2.1 (List.zip x12.2.2 r10.1.2) r39 hr40) rfl (LentAll.cons (Lent.ar (Lent.res 2 rfl) FI64) (LentAll.cons (Lent.rows (i := 3) (j := 4) rfl rfl FI64I64p) (LentAll.nil))) (fun _ _ => rfl)) rfl fun x41 => ?_
          refine J.guardY rfl (Y.not rfl) rfl ?_
          refine J.quiet (Y.pickF rfl rfl) rfl ?_
          refine J.quiet (Y.move rfl) rfl ?_
          refine J.guard (by exact rfl) (by exact rfl) (fun hp42 => ?_) (fun hp42 => ?_)
          · replace h := ifP hp42 h
            refine J.guardN rfl rfl rfl ?_
            refine J.guardN rfl rfl rfl ?_
            refine J.guardN rfl rfl rfl ?_
            refine J.guardN rfl rfl rfl ?_
            refine J.guardN rfl rfl rfl ?_
            refine J.quiet (Y.pickT rfl rfl) rfl ?_
            refine J.done ?_
            refine J.thenN ?_
            exact J.meetI (true) (()) h (by repeat (first | exact SubF.nil | refine SubF.cons rfl ?_)) (SubM.cons 0 rfl (SubM.cons 4 rfl (SubM.nil))) (LentAll.refl _ _)
          · replace h := ifBN hp42 h
            refine J.guardY rfl (Y.move rfl) rfl ?_
            refine J.guardY rfl (Y.lenS rfl (Lent.ar (Lent.res 0 rfl) FI64) rfl) rfl ?_
            refine J.guardY rfl (Y.move rfl) rfl ?_
            refine J.guardY rfl (Y.lenS rfl (Lent.ar (Lent.res 5 rfl) FI64) rfl) rfl ?_
            refine J.guardY rfl (Y.neq rfl rfl) rfl ?_
            refine J.quiet (Y.pickF rfl rfl) rfl ?_
            refine J.done ?_
            refine J.thenN ?_
            exact J.meetI (decide ((List.length r16 : Int) ≠ (List.length a8 : Int))) (()) h (by repeat (first | exact SubF.nil | refine SubF.cons rfl ?_)) (SubM.cons 0 rfl (SubM.cons 4 rfl (SubM.nil))) (LentAll.refl _ _)
      · clear h
        intro a20 b21 h
        unfold law03_FamilyTreesFollowParents_k2 at h
        refine J.cond (by exact rfl) (fun hp22 => ?_) (fun hp22 => ?_)
        · replace h := ifP hp22 h
          refine J.seq ?_
          refine J.region ?_
          refine J.quiet (Y.assign rfl) rfl ?_
          refine J.done ?_
          refine J.thenN ?_
          refine J.ret ?_
          refine J.thenR ?_
          obtain rfl := Option.some.inj h
          exact J.retG1 (()) rfl rfl (RV.tmp rfl) (SubM.nil) LentAll.nil
        · replace h := ifBN hp22 h
          refine J.skip ?_
          refine J.thenN ?_
          refine J.seq ?_
          refine J.midI (A := Unit) (B := Unit) (fun a23 => law03_FamilyTreesFollowParents_k3 fuel a23 = some r) (fun a23 b24 => []) (fun a23 b24 => []) (fun a23 b24 => [Sl RI64 v0 p0]) ?_ ?_
          · refine J.seq ?_
            refine J.region ?_
            refine J.quiet (Y.assign rfl) rfl ?_
            refine J.done ?_
            refine J.thenN ?_
            refine J.block ?_
            refine J.loopI (A := Int) (B := Unit) (law03_FamilyTreesFollowParents_s1 fuel a8 r16) (fun a30 b31 => [(3, b9), (7, x18), (8, Value.int .i64 (a30))]) (fun a30 b31 => [Ar EI64 x18 r16, Ar EI64 b9 a8]) (fun a30 b31 => [Sl RI64 v0 p0]) (1 : Int) (()) h (by repeat (first | exact SubF.nil | refine SubF.cons rfl ?_)) (SubM.refl _) (LentAll.refl _ _) ?_
            clear h
            intro k32 a30 b31 h
            unfold law03_FamilyTreesFollowParents_s1 at h
            refine J.seq ?_
            refine J.seq ?_
            refine J.region ?_
            refine J.quiet (Y.move rfl) rfl ?_
            refine J.quiet (Y.move rfl) rfl ?_
            refine J.quiet (Y.lenS rfl (Lent.ar (Lent.res 1 rfl) FI64) rfl) rfl ?_
            refine J.quiet (Y.lss rfl rfl) rfl ?_
            refine J.done ?_
            refine J.thenN ?_
            refine J.condD (by exact rfl) (fun hp33 => ?_) (fun hp33 => ?_)
            · replace h := ifP hp33 h
              refine J.skip ?_
              refine J.thenN ?_
              refine J.seq ?_
              refine J.block ?_
              refine J.seq ?_
              refine JR.start [0, 0, 3, 7, 0, 0, 0, 96, 224, 496, 1008, 2032, 4095] 12 mixedOrders (by decide +kernel) ?_
              refine JR.open (by exact rfl) ?_
              refine JR.qt rfl (SubM.nil) (SubL.nil) (Y.move rfl) HistOk.z ?_
              refine JR.qt rfl (SubM.nil) (SubL.nil) (Y.move rfl) HistOk.z ?_
              replace h := ck_some h; obtain ⟨hc34, h⟩ := h
              refine JR.qt rfl (SubM.cons 0 rfl (SubM.nil)) (SubL.nil) (Y.indexS rfl rfl (Lent.ar (Lent.res 0 rfl) FI64) rfl rfl hc34) HistOk.z ?_
              refine JR.qt rfl (SubM.cons 0 rfl (SubM.nil)) (SubL.nil) (Y.loadS0 rfl (Lent.ar (Lent.res 0 rfl) FI64) rfl rfl rfl RI64c0 hc34) HistOk.z ?_
              refine JR.qt rfl (SubM.nil) (SubL.nil) (Y.move rfl) HistOk.z ?_
              refine JR.qt rfl (SubM.nil) (SubL.nil) (Y.move rfl) HistOk.z ?_
              refine JR.qt rfl (SubM.nil) (SubL.nil) (Y.move rfl) HistOk.z ?_
              replace h := ck_some h; obtain ⟨hc35, h⟩ := h
              refine JR.qt rfl (SubM.cons 1 rfl (SubM.nil)) (SubL.nil) (Y.indexS rfl rfl (Lent.ar (Lent.res 0 rfl) FI64) rfl rfl hc35) HistOk.z ?_
              refine JR.qt rfl (SubM.cons 1 rfl (SubM.nil)) (SubL.nil) (Y.loadS0 rfl (Lent.ar (Lent.res 0 rfl) FI64) rfl rfl rfl RI64c0 hc35) HistOk.z ?_
              replace h := ck_some h; obtain ⟨hc36, h⟩ := h
              refine JR.qt rfl (SubM.cons 0 rfl (SubM.nil)) (SubL.nil) (Y.indexS rfl rfl (Lent.ar (Lent.res 0 rfl) FI64) rfl rfl hc36) HistOk.z ?_
              refine JR.qt rfl (SubM.cons 0 rfl (SubM.nil)) (SubL.nil) (Y.loadS0 rfl (Lent.ar (Lent.res 0 rfl) FI64) rfl rfl rfl RI64c0 hc36) HistOk.z ?_
              refine JR.qt rfl (SubM.nil) (SubL.nil) (Y.addW rfl rfl) HistOk.z ?_
              refine JR.tailD 12 rfl rfl ?_
              refine J.quiet (Y.neq rfl rfl) rfl ?_
              refine J.done ?_
              refine J.thenN ?_
              refine J.condD (by exact rfl) (fun hp37 => ?_) (fun hp37 => ?_)
              · replace h := ifP hp37 h
                refine J.seq ?_
                refine J.region ?_
                refine J.quiet (Y.assign rfl) rfl ?_
                refine J.done ?_
                refine J.thenN ?_
                refine J.ret ?_
                refine J.inR ?_
                refine J.thenR ?_
                refine J.thenR ?_
                refine J.inR ?_
                refine J.thenR ?_
                obtain rfl := Option.some.inj h
                exact J.retG1 (()) rfl rfl (RV.tmp rfl) (SubM.nil) LentAll.nil
              · replace h := ifN hp37 h
                refine J.skip ?_
                refine J.inN ?_
                refine J.thenN ?_
                refine J.region ?_
                refine J.quiet (Y.move rfl) rfl ?_
                refine J.quiet (Y.addW rfl rfl) rfl ?_
                refine J.quiet (Y.assign rfl) rfl ?_
                refine J.done ?_
                refine J.thenN ?_
                exact J.againI (wI .i64 (a30 + (1 : Int))) (()) h (by repeat (first | exact SubF.nil | refine SubF.cons rfl ?_)) (SubM.refl _) (LentAll.refl _ _)
            · replace h := ifN hp33 h
              refine J.exit ?_
              refine J.thenX ?_
              refine J.thenX ?_
              refine J.inX ?_
              refine J.thenN ?_
              exact J.meetI (()) (()) h (by repeat (first | exact SubF.nil | refine SubF.cons rfl ?_)) (SubM.nil) (LentAll.refl _ _)
          · clear h
            intro a23 b24 h
            unfold law03_FamilyTreesFollowParents_k3 at h
            refine J.seq ?_
            refine J.region ?_
            replace h := bnd h; obtain ⟨r25, hr26, h⟩ := h
            refine J.loud (Loud.callL body18 (t_law03_awake fuel  r25 hr26) rfl (LentAll.nil) (fun _ _ => rfl)) rfl fun x27 => ?_
            refine J.quiet (Y.assign rfl) rfl ?_
            refine J.done ?_
            refine J.thenN ?_
            refine J.ret ?_
            obtain rfl := Option.some.inj h
            exact J.retG1 (()) rfl rfl (RV.tmp rfl) (SubM.refl _) LentAll.nil

end Go.Proofs.Ytemhmmcakmidkaa
end
section
set_option linter.unusedVariables false
set_option linter.unusedSimpArgs false
namespace Go.Proofs.Ytemhmmcakmidkaa
open Go.Sx
/-- the degrees of a graph of a relation -/
theorem rel_degSum {f : Nat → Nat → Bool} {n : Nat} (hV : VG (relG f n)) : degSum (relG f n) = sumN (fun v => sumN (fun u => ind (f v u = true)) n) n := by
  have hl : (relG f n).2.length = n := selP_len f n
  unfold degSum
  rw [sumN_eq fun v hv => deg_sum hV hv, hl]
  refine sumN_eq fun v hv => sumN_eq fun u hu => ?_
  rw [propext (show Adj (relG f n) v u ↔ f v u = true from ⟨fun h => ((rel_adj hv).1 h).2, fun h => (rel_adj hv).2 ⟨hu, h⟩⟩)]

def par (ps : List Int) (v : Nat) : Nat := (at' ps (v : Int)).toNat

theorem parRel_iff {ps : List Int} (h : ParOk ps) {v u : Nat} (hv : v < ps.length) (hu : u < ps.length) : parRel ps v u = true ↔ (0 < v ∧ u = par ps v) ∨ (0 < u ∧ v = par ps u) := by
  unfold parRel par
  rw [Bool.or_eq_true, Bool.and_eq_true, Bool.and_eq_true, decide_eq_true_eq, decide_eq_true_eq, decide_eq_true_eq, decide_eq_true_eq]
  constructor
  · rintro (⟨h1, h2⟩ | ⟨h1, h2⟩)
    · exact .inl ⟨h1, by omega⟩
    · exact .inr ⟨h1, by omega⟩
  · rintro (⟨h1, h2⟩ | ⟨h1, h2⟩)
    · have := h v h1 hv; exact .inl ⟨h1, by omega⟩
    · have := h u h1 hu; exact .inr ⟨h1, by omega⟩

theorem par_lt {ps : List Int} (h : ParOk ps) {v : Nat} (hv : v < ps.length) (h0 : 0 < v) : par ps v < v := by
  have := h v h0 hv
  unfold par
  omega

theorem par_valid {ps : List Int} (h : ParOk ps) (h1 : 1 ≤ ps.length) (h24 : ps.length ≤ 24) : VG (relG (parRel ps) ps.length) := by
  refine rel_valid h1 h24 (fun v u hv hu hr => ?_) (fun v hv => ?_)
  · rw [parRel_iff h hv hu] at hr
    rw [parRel_iff h hu hv]
    exact hr.symm
  · cases hr : parRel ps v v with
    | false => rfl
    | true =>
      rw [parRel_iff h hv hv] at hr
      rcases hr with ⟨h0, e⟩ | ⟨h0, e⟩ <;> (have := par_lt h hv h0; omega)

/-- the depths -/
theorem par_depth {ps : List Int} (h : ParOk ps) : ∀ n, n ≤ ps.length → ∃ δ : Nat → Nat, δ 0 = 0 ∧ ∀ v, 0 < v → v < n → δ v = δ (par ps v) + 1
  | 0, _ => ⟨fun _ => 0, rfl, fun v _ hv => by omega⟩
  | n + 1, hn => by
    obtain ⟨δ, h0, hd⟩ := par_depth h n (by omega)
    by_cases hz : n = 0
    · exact ⟨δ, h0, fun v h1 h2 => by omega⟩
    refine ⟨fun v => if v = n then δ (par ps n) + 1 else δ v, ?_, fun v h1 h2 => ?_⟩
    · show (if 0 = n then _ else δ 0) = 0
      rw [if_neg (by omega)]; exact h0
    · have hp := par_lt h (v := v) (by omega) h1
      show (if v = n then _ else δ v) = (if par ps v = n then _ else δ (par ps v)) + 1
      rw [if_neg (show par ps v ≠ n by omega)]
      by_cases e : v = n
      · rw [if_pos e, e]
      · rw [if_neg e]; exact hd v h1 (by omega)

theorem par_dist {ps : List Int} (h : ParOk ps) (h1 : 1 ≤ ps.length) (h24 : ps.length ≤ 24) {d : List Int} (hD : Dist (relG (parRel ps) ps.length) 0 d) : (∀ v, v < ps.length → 0 ≤ D d v) ∧ ∀ v, 0 < v → v < ps.length → D d v = D d (par ps v) + 1 := by
  have hV := par_valid h h1 h24
  have hl : (relG (parRel ps) ps.length).2.length = ps.length := selP_len _ _
  obtain ⟨δ, h0, hd⟩ := par_depth h ps.length (Nat.le_refl _)
  have key := Dist.unique hV (s := 0) (by omega) hD δ (fun v hv => ?_) (fun v hv hp => ?_) (fun v u hv hu ha => ?_)
  · rw [hl] at key
    refine ⟨fun v hv => by rw [key v hv]; omega, fun v hv hn => ?_⟩
    have hp := par_lt h hn hv
    rw [key v hn, key (par ps v) (by omega), hd v hv hn]; omega
  · rw [hl] at hv
    constructor
    · intro e
      rcases Nat.eq_zero_or_pos v with hz | hz
      · exact hz
      · have := hd v hz hv; omega
    · rintro rfl; exact h0
  · rw [hl] at hv ⊢
    have hz : 0 < v := by
      rcases Nat.eq_zero_or_pos v with hz | hz
      · subst hz; omega
      · exact hz
    have hp := par_lt h hv hz
    exact ⟨par ps v, by omega, (rel_adj hv).2 ⟨by omega, (parRel_iff h hv (by omega)).2 (.inl ⟨hz, rfl⟩)⟩, (hd v hz hv).symm⟩
  · rw [hl] at hv hu
    have := ((rel_adj hv).1 ha).2
    rw [parRel_iff h hv hu] at this
    rcases this with ⟨hz, e⟩ | ⟨hz, e⟩
    · have := hd v hz hv; rw [← e] at this; omega
    · have := hd u hz hu; rw [← e] at this; omega

theorem par_degSum {ps : List Int} (h : ParOk ps) (h1 : 1 ≤ ps.length) (h24 : ps.length ≤ 24) : degSum (relG (parRel ps) ps.length) = 2 * (ps.length - 1) := by
  rw [rel_degSum (par_valid h h1 h24)]
  have e1 : sumN (fun v => sumN (fun u => ind (parRel ps v u = true)) ps.length) ps.length = sumN (fun v => sumN (fun u => ind (0 < v ∧ u = par ps v)) ps.length + sumN (fun u => ind (0 < u ∧ v = par ps u)) ps.length) ps.length := by
    refine sumN_eq fun v hv => ?_
    rw [← sumN_add]
    refine sumN_eq fun u hu => ?_
    have hi := parRel_iff h hv hu
    rcases ind_cases (0 < v ∧ u = par ps v) with ⟨ha, ea⟩ | ⟨ha, ea⟩ <;> rcases ind_cases (0 < u ∧ v = par ps u) with ⟨hb, eb⟩ | ⟨hb, eb⟩
    · have := par_lt h hv ha.1; have := par_lt h hu hb.1; omega
    · rw [ea, eb, ind1 (hi.2 (.inl ha))]
    · rw [ea, eb, ind1 (hi.2 (.inr hb))]
    · rw [ea, eb, ind0 (fun hc => by rcases hi.1 hc with hc | hc; exact ha hc; exact hb hc)]
  rw [e1, sumN_add, sumN_swap (fun v u => ind (0 < u ∧ v = par ps u))]
  have e2 : ∀ m, m ≤ ps.length → sumN (fun v => sumN (fun u => ind (0 < v ∧ u = par ps v)) ps.length) m = m - 1 := by
    intro m
    induction m with
    | zero => intro _; rfl
    | succ m ih =>
      intro hm
      show sumN _ m + sumN (fun u => ind (0 < m ∧ u = par ps m)) ps.length = _
      rw [ih (by omega)]
      by_cases hz : m = 0
      · subst hz
        rw [sumN_eq (h := fun _ => 0) fun u _ => ind0 (by omega), sumN_const]; omega
      · have hp := par_lt h (v := m) (by omega) (by omega)
        rw [sumN_eq (h := fun u => ind (u = par ps m)) fun u _ => by rw [propext (show (0 < m ∧ u = par ps m) ↔ u = par ps m from ⟨fun q => q.2, fun q => ⟨by omega, q⟩⟩)], sumN_delta, ind1 (by omega)]
        omega
  have e3 := e2 ps.length (Nat.le_refl _)
  omega

theorem famParents_eq (ps : List Int) (h1 : 1 ≤ ps.length) (h2 : ps.length ≤ 24) (h0 : at' ps (0 : Int) = -1) (h : ParOk ps) : m_family_FromParents 1000 ps = some (relG (parRel ps) ps.length, 0) := by
  have e1 : m_family_FromParents 1000 ps = iter (family_FromParents_s1 1000 ps) 1000 (1 : Int) := by
    unfold m_family_FromParents family_FromParents_k1
    rw [if_neg (by omega), if_neg (by omega), ckT (by omega), decide_eq_false (by simp [h0])]; rfl
  rw [e1, fam_ok ps h1 h2 h]

theorem at_snoc {α : Type} [Inhabited α] (l : List α) (x : α) (k : Nat) : at' (l ++ [x]) (k : Int) = if k < l.length then at' l (k : Int) else if k = l.length then x else default := by
  rw [at'_nat, at'_nat, List.getD_eq_getElem?_getD, List.getD_eq_getElem?_getD]
  by_cases h : k < l.length
  · rw [if_pos h, List.getElem?_append_left h]
  · rw [if_neg h, List.getElem?_append_right (by omega)]
    by_cases e : k = l.length
    · rw [if_pos e, e]; simp
    · rw [if_neg e]
      obtain ⟨j, hj⟩ : ∃ j, k - l.length = j + 1 := ⟨k - l.length - 1, by omega⟩
      rw [hj]; rfl

theorem treesFollow_pure (raw : List Int) : m_law03_FamilyTreesFollowParents 1000 raw = some true := by
  unfold m_law03_FamilyTreesFollowParents
  by_cases hl : (40 : Int) < raw.length
  · rw [if_pos hl, bindS awakeK]
  rw [if_neg hl]
  have fin : ∀ ps : List Int, 1 ≤ ps.length → ps.length ≤ 24 → at' ps (0 : Int) = -1 → ParOk ps → law03_FamilyTreesFollowParents_k1 1000 ps = some true := by
    intro ps h1 h2 h0 h
    have hV := par_valid h h1 h2
    have hlg : (relG (parRel ps) ps.length).2.length = ps.length := selP_len _ _
    obtain ⟨d, hd, hD⟩ := distances_ok hV (s := 0) (by omega)
    have hlen := hD.len
    rw [hlg] at hlen
    obtain ⟨p0, p1⟩ := par_dist h h1 h2 hD
    have hc : Conn (relG (parRel ps) ps.length) := (conn_iff hV (s := 0) (by omega) hD).1 (fun v hv => p0 v (by omega))
    have ht := (tree_eq hV).1 hc
    rw [par_degSum h h1 h2, hlg, decide_eq_true (by omega)] at ht
    unfold law03_FamilyTreesFollowParents_k1
    rw [bindS (famParents_eq ps h1 h2 h0 h)]
    dsimp only
    rw [show ((0 : Nat) : Int) = 0 from rfl] at hd
    rw [bindS hd, if_neg (by simp), bindS ht, if_neg (by simp), decide_eq_false (by omega)]
    unfold law03_FamilyTreesFollowParents_k2
    rw [if_neg (by simp)]
    refine iter_eq (fun i : Int => ∃ k : Nat, i = k ∧ 1 ≤ k ∧ k ≤ ps.length) (fun i : Int => ps.length - i.toNat) ?_ 1000 _ ⟨1, rfl, by omega, h1⟩ (by simp; omega)
    rintro i ag ⟨k, rfl, k1, k2⟩ hag
    unfold law03_FamilyTreesFollowParents_s1
    by_cases hk : k < ps.length
    · have hp := h k k1 hk
      have e : at' ps (k : Int) = ((par ps k : Nat) : Int) := by unfold par; omega
      have hb := hD.lt (v := par ps k) (by have := par_lt h hk k1; omega)
      have hq := p0 (par ps k) (by have := par_lt h hk k1; omega)
      rw [hlg] at hb
      rw [if_pos (by omega), ckT (by omega), ckT (by omega), ckT (by omega), e, wr (x := D d (par ps k) + 1) (by omega) (by omega), if_neg (by rw [← p1 k k1 hk]; simp), wr (by omega) (by omega)]
      exact hag _ ⟨k + 1, by omega, by omega, by omega⟩ (by omega)
    · rw [if_neg (by omega)]
      unfold law03_FamilyTreesFollowParents_k3
      rw [bindS awakeK]
  refine iter_eq (fun z : Int × List Int => ∃ k : Nat, z.1 = k ∧ k ≤ raw.length ∧ 1 ≤ z.2.length ∧ z.2.length ≤ 24 ∧ at' z.2 (0 : Int) = -1 ∧ ParOk z.2) (fun z => 41 - z.1.toNat) ?_ 1000 _ ⟨0, rfl, by omega, by simp, by simp, rfl, fun v h1 h2 => by simp at h2; omega⟩ (by simp)
  rintro ⟨i, ps⟩ ag ⟨k, hi, hk, h1, h2, h0, h⟩ hag
  dsimp only at hi h1 h2 h0 h hag
  subst hi
  unfold law03_FamilyTreesFollowParents_s2 law03_FamilyTreesFollowParents_k4
  dsimp only
  by_cases hr : k < raw.length
  · rw [if_pos (by omega)]
    by_cases h3 : (ps.length : Int) < 24
    · obtain ⟨r, hm, s, rfl, hs⟩ := mod_ok (at' raw (k : Int)) h1 h2
      rw [decide_eq_true h3, if_pos rfl, ckT (by omega), bindS hm, ckT (by simp; omega), wr (by omega) (by omega)]
      refine hag _ ⟨k + 1, by dsimp only; omega, by omega, by dsimp only; simp, by dsimp only; simp; omega, ?_, ?_⟩ (by dsimp only; omega)
      · dsimp only
        rw [show (0 : Int) = ((0 : Nat) : Int) from rfl, at_snoc, if_pos (by omega)]; exact h0
      · intro v v1 v2
        dsimp only at v2 ⊢
        rw [at_snoc]
        by_cases hv : v < ps.length
        · rw [if_pos hv]; exact h v v1 hv
        · have : v = ps.length := by simp at v2; omega
          rw [if_neg hv, if_pos this]; omega
    · rw [decide_eq_false h3, if_neg (by simp)]
      exact fin ps h1 h2 h0 h
  · rw [if_neg (by omega), if_neg (by simp)]
    exact fin ps h1 h2 h0 h
end Go.Proofs.Ytemhmmcakmidkaa
end
