/- The model of selfstablaw03.FamilyMakes and the proof that the function meets it, by program (gen/xt.py). Conditions: none. -/
import Derived.Test.YtemhmmcakmidkaaX18
import Derived.Test.YtemhmmcakmidkaaX19
import Derived.Test.YtemhmmcakmidkaaX20
import Derived.Test.YtemhmmcakmidkaaX21
import Derived.Test.YtemhmmcakmidkaaX22
import Derived.Test.YtemhmmcakmidkaaX23
import Derived.Test.YtemhmmcakmidkaaX24
import Derived.Test.YtemhmmcakmidkaaX25
import Derived.Test.YtemhmmcakmidkaaX26
import Derived.Test.YtemhmmcakmidkaaX27
import Derived.Test.YtemhmmcakmidkaaX28
import Derived.Test.YtemhmmcakmidkaaX29
import Derived.Test.YtemhmmcakmidkaaX30
import Derived.Test.YtemhmmcakmidkaaX31
namespace Go.Proofs.Ytemhmmcakmidkaa
open Go.Sx

def law03_FamilyMakes_k6  (a88 : Bool) : Option (Bool) :=
  some (a88)
def law03_FamilyMakes_k5 (fuel : Nat) (p3 : List (Int)) (a74 : Bool) : Option (Bool) :=
  if a74 = true then (some (false)) else (Option.bind (m_family_FromParents fuel p3) fun r77 => (Option.bind (m_ref03_FromParents fuel p3) fun r82 => (Option.bind (m_law03_awake fuel ) fun r90 => (if r90 = true then (Option.bind (m_ref01_Same fuel ((r77.1.1, r77.1.2)) ((r82.1.1, r82.1.2))) fun r94 => (if r94 = true then (law03_FamilyMakes_k6  (decide (r77.2 = r82.2))) else (law03_FamilyMakes_k6  (false)))) else (law03_FamilyMakes_k6  (false))))))
def law03_FamilyMakes_k4 (fuel : Nat) (p1 : Int) (p2 : Int) (p3 : List (Int)) (a60 : Bool) : Option (Bool) :=
  if a60 = true then (some (false)) else (Option.bind (m_family_Grid fuel p1 p2) fun r63 => (Option.bind (m_ref03_Grid fuel p1 p2) fun r68 => (Option.bind (m_ref01_Same fuel ((r63.1.1, r63.1.2)) ((r68.1.1, r68.1.2))) fun r98 => (if (!r98) = true then (law03_FamilyMakes_k5 fuel p3 (true)) else (law03_FamilyMakes_k5 fuel p3 (decide (r63.2 ≠ r68.2)))))))
def law03_FamilyMakes_k3 (fuel : Nat) (p0 : Int) (p1 : Int) (p2 : Int) (p3 : List (Int)) (a46 : Bool) : Option (Bool) :=
  if a46 = true then (some (false)) else (Option.bind (m_family_Complete fuel p0) fun r49 => (Option.bind (m_ref03_Complete fuel p0) fun r54 => (Option.bind (m_ref01_Same fuel ((r49.1.1, r49.1.2)) ((r54.1.1, r54.1.2))) fun r102 => (if (!r102) = true then (law03_FamilyMakes_k4 fuel p1 p2 p3 (true)) else (law03_FamilyMakes_k4 fuel p1 p2 p3 (decide (r49.2 ≠ r54.2)))))))
def law03_FamilyMakes_k2 (fuel : Nat) (p0 : Int) (p1 : Int) (p2 : Int) (p3 : List (Int)) (a32 : Bool) : Option (Bool) :=
  if a32 = true then (some (false)) else (Option.bind (m_family_Star fuel p0) fun r35 => (Option.bind (m_ref03_Star fuel p0) fun r40 => (Option.bind (m_ref01_Same fuel ((r35.1.1, r35.1.2)) ((r40.1.1, r40.1.2))) fun r106 => (if (!r106) = true then (law03_FamilyMakes_k3 fuel p0 p1 p2 p3 (true)) else (law03_FamilyMakes_k3 fuel p0 p1 p2 p3 (decide (r35.2 ≠ r40.2)))))))
def law03_FamilyMakes_k1 (fuel : Nat) (p0 : Int) (p1 : Int) (p2 : Int) (p3 : List (Int)) (a18 : Bool) : Option (Bool) :=
  if a18 = true then (some (false)) else (Option.bind (m_family_Path fuel p0) fun r21 => (Option.bind (m_ref03_Path fuel p0) fun r26 => (Option.bind (m_ref01_Same fuel ((r21.1.1, r21.1.2)) ((r26.1.1, r26.1.2))) fun r110 => (if (!r110) = true then (law03_FamilyMakes_k2 fuel p0 p1 p2 p3 (true)) else (law03_FamilyMakes_k2 fuel p0 p1 p2 p3 (decide (r21.2 ≠ r26.2)))))))
def m_law03_FamilyMakes (fuel : Nat) (p0 : Int) (p1 : Int) (p2 : Int) (p3 : List (Int)) : Option (Bool) :=
  if (40 : Int) < (List.length p3 : Int) then (Option.bind (m_law03_awake fuel ) fun r2 => (some (r2))) else (Option.bind (m_family_Ring fuel p0) fun r5 => (Option.bind (m_ref03_Ring fuel p0) fun r11 => (Option.bind (m_ref01_Same fuel ((r5.1.1, r5.1.2)) ((r11.1.1, r11.1.2))) fun r114 => (if (!r114) = true then (law03_FamilyMakes_k1 fuel p0 p1 p2 p3 (true)) else (law03_FamilyMakes_k1 fuel p0 p1 p2 p3 (decide (r5.2 ≠ r11.2)))))))

theorem body3 : HasBody Try.prog 3 := Try.call3

set_option maxHeartbeats 4000000 in
set_option maxRecDepth 20000 in
theorem t_law03_FamilyMakes (fuel : Nat) {p0 : Int} {p1 : Int} {p2 : Int} {p3 : List (Int)} (v0 : Value) (r : Bool) (h : m_law03_FamilyMakes fuel p0 p1 p2 p3 = some r) :
    Meets Try.prog 3 #[Value.int .i64 (p0), Value.int .i64 (p1), Value.int .i64 (p2), v0] [Sl RI64 v0 p3] (fun x : Unit => Value.bool (r)) (fun x l => l) (fun _ l => l) := by
  refine Meets.of (vs := [Value.int .i64 (p0), Value.int .i64 (p1), Value.int .i64 (p2), v0]) Try.func3 rfl Try.ntmps3 rfl fun c => ?_
  unfold m_law03_FamilyMakes at h
  refine J.seq ?_
  refine J.region ?_
  refine J.quiet (Y.assign rfl) rfl ?_
  refine J.done ?_
  refine J.thenN ?_
  refine J.seq ?_
  refine J.seq ?_
  refine J.region ?_
  refine J.quiet (Y.move rfl) rfl ?_
  refine J.quiet (Y.lenS rfl (Lent.fact 0 rfl) rfl) rfl ?_
  refine J.quiet (Y.gtr rfl rfl) rfl ?_
  refine J.done ?_
  refine J.thenN ?_
  refine J.condD (by exact rfl) (fun hp1 => ?_) (fun hp1 => ?_)
  · replace h := ifP hp1 h
    refine J.seq ?_
    refine J.region ?_
    replace h := bnd h; obtain ⟨r2, hr3, h⟩ := h
    refine J.loud (Loud.callL body18 (t_law03_awake fuel  r2 hr3) rfl (LentAll.nil) (fun _ _ => rfl)) rfl fun x4 => ?_
    refine J.quiet (Y.assign rfl) rfl ?_
    refine J.done ?_
    refine J.thenN ?_
    refine J.ret ?_
    refine J.thenR ?_
    obtain rfl := Option.some.inj h
    exact J.retG1 (()) rfl rfl (RV.tmp rfl) (SubM.refl _) LentAll.nil
  · replace h := ifN hp1 h
    refine J.skip ?_
    refine J.thenN ?_
    refine J.seq ?_
    refine J.region ?_
    refine J.quiet (Y.move rfl) rfl ?_
    replace h := bnd h; obtain ⟨r5, hr6, h⟩ := h
    refine J.loud (Loud.callL body19 (t_family_Ring fuel  r5 hr6) rfl (LentAll.nil) (fun _ _ => rfl)) rfl fun x7 => ?_
    refine J.quiet (Y.move rfl) rfl ?_
    refine J.quiet (Y.extract rfl rfl) rfl ?_
    refine J.quiet (Y.extract rfl rfl) rfl ?_
    refine J.loud (Loud.alloc (cs := [Value.slice none 0 0, Value.slice none 0 0]) rfl rfl) rfl fun b8 => ?_
    refine J.know (Know.one ((Lent.ar (Lent.res 1 rfl) FI64))) fun ho9 => ?_
    refine J.know (Know.one (Lent.sl (Lent.rows (i := 2) (j := 3) rfl rfl FI64I64p))) fun ho10 => ?_
    refine J.storeAll 0 (vs := [x7.1, x7.2.1]) rfl rfl (all1 ho9 (all1 ho10 rfl)) rfl rfl rfl ?_
    refine J.quiet (Y.assign rfl) rfl ?_
    refine J.done ?_
    refine J.thenN ?_
    refine J.seq ?_
    refine J.region ?_
    refine J.quiet (Y.move rfl) rfl ?_
    replace h := bnd h; obtain ⟨r11, hr12, h⟩ := h
    refine J.loud (Loud.callL body20 (t_ref03_Ring fuel  r11 hr12) rfl (LentAll.nil) (fun _ _ => rfl)) rfl fun x13 => ?_
    refine J.quiet (Y.move rfl) rfl ?_
    refine J.quiet (Y.extract rfl rfl) rfl ?_
    refine J.quiet (Y.extract rfl rfl) rfl ?_
    refine J.loud (Loud.alloc (cs := [Value.slice none 0 0, Value.slice none 0 0]) rfl rfl) rfl fun b14 => ?_
    refine J.know (Know.one ((Lent.ar (Lent.res 1 rfl) FI64))) fun ho15 => ?_
    refine J.know (Know.one (Lent.sl (Lent.rows (i := 2) (j := 3) rfl rfl FI64I64p))) fun ho16 => ?_
    refine J.storeAll 0 (vs := [x13.1, x13.2.1]) rfl rfl (all1 ho15 (all1 ho16 rfl)) rfl rfl rfl ?_
    refine J.quiet (Y.assign rfl) rfl ?_
    refine J.done ?_
    refine J.thenN ?_
    refine J.seq ?_
    refine J.seq ?_
    refine J.midI (A := Bool) (B := Unit) (fun a18 => law03_FamilyMakes_k1 fuel p0 p1 p2 p3 a18 = some r) (fun a18 b19 => [(0, Value.int .i64 (p0)), (1, Value.int .i64 (p1)), (2, Value.int .i64 (p2)), (3, v0), (9, Value.pointer (some ⟨b8, 0, none⟩)), (11, Value.pointer (some ⟨b14, 0, none⟩)), (35, Value.bool (a18))]) (fun a18 b19 => [Blk b14 [x13.1, x13.2.1] 26, Ar EI64 x13.1 r11.1.1, Ar Enc.raw x13.2.1 x13.2.2, Rws EI64I64p x13.2.2 r11.1.2, Blk b8 [x7.1, x7.2.1] 26, Ar EI64 x7.1 r5.1.1, Ar Enc.raw x7.2.1 x7.2.2, Rws EI64I64p x7.2.2 r5.1.2]) (fun a18 b19 => [Sl RI64 v0 p3]) ?_ ?_
    · refine J.region ?_
      refine J.quiet (Y.loadBAll 4 rfl rfl rfl rfl) rfl ?_
      refine J.quiet (Y.loadBAll 0 rfl rfl rfl rfl) rfl ?_
      replace h := bnd h; obtain ⟨r114, hr115, h⟩ := h
      refine J.loud (Loud.callL body21 (t_ref01_Same fuel x7.1 x7.2.1 (List.zip x7.2.2 r5.1.2) x13.1 x13.2.1 (List.zip x13.2.2 r11.1.2) r114 hr115) rfl (LentAll.cons (Lent.ar (Lent.res 5 rfl) FI64) (LentAll.cons (Lent.rows (i := 6) (j := 7) rfl rfl FI64I64p) (LentAll.cons (Lent.ar (Lent.res 1 rfl) FI64) (LentAll.cons (Lent.rows (i := 2) (j := 3) rfl rfl FI64I64p) (LentAll.nil))))) (fun _ _ => rfl)) rfl fun x116 => ?_
      refine J.quiet (Y.not rfl) rfl ?_
      refine J.quiet (Y.move rfl) rfl ?_
      refine J.guard (by exact rfl) (by exact rfl) (fun hp117 => ?_) (fun hp117 => ?_)
      · replace h := ifP hp117 h
        refine J.guardN rfl rfl rfl ?_
        refine J.guardN rfl rfl rfl ?_
        refine J.guardN rfl rfl rfl ?_
        refine J.quiet (Y.pickT rfl rfl) rfl ?_
        refine J.done ?_
        refine J.thenN ?_
        exact J.meetI (true) (()) h (by repeat (first | exact SubF.nil | refine SubF.cons rfl ?_)) (SubM.refl _) (LentAll.refl _ _)
      · replace h := ifBN hp117 h
        refine J.guardY rfl (Y.move rfl) rfl ?_
        refine J.guardY rfl (Y.move rfl) rfl ?_
        refine J.guardY rfl (Y.neq rfl rfl) rfl ?_
        refine J.quiet (Y.pickF rfl rfl) rfl ?_
        refine J.done ?_
        refine J.thenN ?_
        exact J.meetI (decide (r5.2 ≠ r11.2)) (()) h (by repeat (first | exact SubF.nil | refine SubF.cons rfl ?_)) (SubM.refl _) (LentAll.refl _ _)
    · clear h
      intro a18 b19 h
      unfold law03_FamilyMakes_k1 at h
      refine J.cond (by exact rfl) (fun hp20 => ?_) (fun hp20 => ?_)
      · replace h := ifP hp20 h
        refine J.seq ?_
        refine J.region ?_
        refine J.quiet (Y.assign rfl) rfl ?_
        refine J.done ?_
        refine J.thenN ?_
        refine J.ret ?_
        refine J.thenR ?_
        obtain rfl := Option.some.inj h
        exact J.retG1 (()) rfl rfl (RV.tmp rfl) (SubM.nil) LentAll.nil
      · replace h := ifBN hp20 h
        refine J.skip ?_
        refine J.thenN ?_
        refine J.seq ?_
        refine J.region ?_
        refine J.quiet (Y.move rfl) rfl ?_
        replace h := bnd h; obtain ⟨r21, hr22, h⟩ := h
        refine J.loud (Loud.callL body22 (t_family_Path fuel  r21 hr22) rfl (LentAll.nil) (fun _ _ => rfl)) rfl fun x23 => ?_
        refine J.quiet (Y.move rfl) rfl ?_
        refine J.quiet (Y.extract rfl rfl) rfl ?_
        refine J.quiet (Y.extract rfl rfl) rfl ?_
        refine J.know (Know.one ((Lent.ar (Lent.res 0 rfl) FI64))) fun ho24 => ?_
        refine J.know (Know.one (Lent.sl (Lent.rows (i := 1) (j := 2) rfl rfl FI64I64p))) fun ho25 => ?_
        refine J.storeAll 7 (vs := [x23.1, x23.2.1]) rfl rfl (all1 ho24 (all1 ho25 rfl)) rfl rfl rfl ?_
        refine J.quiet (Y.assign rfl) rfl ?_
        refine J.done ?_
        refine J.thenN ?_
        refine J.seq ?_
        refine J.region ?_
        refine J.quiet (Y.move rfl) rfl ?_
        replace h := bnd h; obtain ⟨r26, hr27, h⟩ := h
        refine J.loud (Loud.callL body23 (t_ref03_Path fuel  r26 hr27) rfl (LentAll.nil) (fun _ _ => rfl)) rfl fun x28 => ?_
        refine J.quiet (Y.move rfl) rfl ?_
        refine J.quiet (Y.extract rfl rfl) rfl ?_
        refine J.quiet (Y.extract rfl rfl) rfl ?_
        refine J.know (Know.one ((Lent.ar (Lent.res 0 rfl) FI64))) fun ho29 => ?_
        refine J.know (Know.one (Lent.sl (Lent.rows (i := 1) (j := 2) rfl rfl FI64I64p))) fun ho30 => ?_
        refine J.storeAll 6 (vs := [x28.1, x28.2.1]) rfl rfl (all1 ho29 (all1 ho30 rfl)) rfl rfl rfl ?_
        refine J.quiet (Y.assign rfl) rfl ?_
        refine J.done ?_
        refine J.thenN ?_
        refine J.seq ?_
        refine J.seq ?_
        refine J.midI (A := Bool) (B := Unit) (fun a32 => law03_FamilyMakes_k2 fuel p0 p1 p2 p3 a32 = some r) (fun a32 b33 => [(0, Value.int .i64 (p0)), (1, Value.int .i64 (p1)), (2, Value.int .i64 (p2)), (3, v0), (9, Value.pointer (some ⟨b8, 0, none⟩)), (11, Value.pointer (some ⟨b14, 0, none⟩)), (54, Value.bool (a32))]) (fun a32 b33 => [Ar EI64 x28.1 r26.1.1, Ar Enc.raw x28.2.1 x28.2.2, Rws EI64I64p x28.2.2 r26.1.2, Ar EI64 x23.1 r21.1.1, Ar Enc.raw x23.2.1 x23.2.2, Rws EI64I64p x23.2.2 r21.1.2, Blk b14 [x28.1, x28.2.1] 26, Blk b8 [x23.1, x23.2.1] 26]) (fun a32 b33 => [Sl RI64 v0 p3]) ?_ ?_
        · refine J.region ?_
          refine J.quiet (Y.loadBAll 10 rfl rfl rfl rfl) rfl ?_
          refine J.quiet (Y.loadBAll 6 rfl rfl rfl rfl) rfl ?_
          replace h := bnd h; obtain ⟨r110, hr111, h⟩ := h
          refine J.loud (Loud.callL body21 (t_ref01_Same fuel x23.1 x23.2.1 (List.zip x23.2.2 r21.1.2) x28.1 x28.2.1 (List.zip x28.2.2 r26.1.2) r110 hr111) rfl (LentAll.cons (Lent.ar (Lent.res 3 rfl) FI64) (LentAll.cons (Lent.rows (i := 4) (j := 5) rfl rfl FI64I64p) (LentAll.cons (Lent.ar (Lent.res 0 rfl) FI64) (LentAll.cons (Lent.rows (i := 1) (j := 2) rfl rfl FI64I64p) (LentAll.nil))))) (fun _ _ => rfl)) rfl fun x112 => ?_
          refine J.quiet (Y.not rfl) rfl ?_
          refine J.quiet (Y.move rfl) rfl ?_
          refine J.guard (by exact rfl) (by exact rfl) (fun hp113 => ?_) (fun hp113 => ?_)
          · replace h := ifP hp113 h
            refine J.guardN rfl rfl rfl ?_
            refine J.guardN rfl rfl rfl ?_
            refine J.guardN rfl rfl rfl ?_
            refine J.quiet (Y.pickT rfl rfl) rfl ?_
            refine J.done ?_
            refine J.thenN ?_
            exact J.meetI (true) (()) h (by repeat (first | exact SubF.nil | refine SubF.cons rfl ?_)) (SubM.cons 0 rfl (SubM.cons 0 rfl (SubM.cons 0 rfl (SubM.cons 0 rfl (SubM.cons 0 rfl (SubM.cons 0 rfl (SubM.cons 0 rfl (SubM.cons 3 rfl (SubM.nil))))))))) (LentAll.refl _ _)
          · replace h := ifBN hp113 h
            refine J.guardY rfl (Y.move rfl) rfl ?_
            refine J.guardY rfl (Y.move rfl) rfl ?_
            refine J.guardY rfl (Y.neq rfl rfl) rfl ?_
            refine J.quiet (Y.pickF rfl rfl) rfl ?_
            refine J.done ?_
            refine J.thenN ?_
            exact J.meetI (decide (r21.2 ≠ r26.2)) (()) h (by repeat (first | exact SubF.nil | refine SubF.cons rfl ?_)) (SubM.cons 0 rfl (SubM.cons 0 rfl (SubM.cons 0 rfl (SubM.cons 0 rfl (SubM.cons 0 rfl (SubM.cons 0 rfl (SubM.cons 0 rfl (SubM.cons 3 rfl (SubM.nil))))))))) (LentAll.refl _ _)
        · clear h
          intro a32 b33 h
          unfold law03_FamilyMakes_k2 at h
          refine J.cond (by exact rfl) (fun hp34 => ?_) (fun hp34 => ?_)
          · replace h := ifP hp34 h
            refine J.seq ?_
            refine J.region ?_
            refine J.quiet (Y.assign rfl) rfl ?_
            refine J.done ?_
            refine J.thenN ?_
            refine J.ret ?_
            refine J.thenR ?_
            obtain rfl := Option.some.inj h
            exact J.retG1 (()) rfl rfl (RV.tmp rfl) (SubM.nil) LentAll.nil
          · replace h := ifBN hp34 h
            refine J.skip ?_
            refine J.thenN ?_
            refine J.seq ?_
            refine J.region ?_
            refine J.quiet (Y.move rfl) rfl ?_
            replace h := bnd h; obtain ⟨r35, hr36, h⟩ := h
            refine J.loud (Loud.callL body24 (t_family_Star fuel  r35 hr36) rfl (LentAll.nil) (fun _ _ => rfl)) rfl fun x37 => ?_
            refine J.quiet (Y.move rfl) rfl ?_
            refine J.quiet (Y.extract rfl rfl) rfl ?_
            refine J.quiet (Y.extract rfl rfl) rfl ?_
            refine J.know (Know.one ((Lent.ar (Lent.res 0 rfl) FI64))) fun ho38 => ?_
            refine J.know (Know.one (Lent.sl (Lent.rows (i := 1) (j := 2) rfl rfl FI64I64p))) fun ho39 => ?_
            refine J.storeAll 10 (vs := [x37.1, x37.2.1]) rfl rfl (all1 ho38 (all1 ho39 rfl)) rfl rfl rfl ?_
            refine J.quiet (Y.assign rfl) rfl ?_
            refine J.done ?_
            refine J.thenN ?_
            refine J.seq ?_
            refine J.region ?_
            refine J.quiet (Y.move rfl) rfl ?_
            replace h := bnd h; obtain ⟨r40, hr41, h⟩ := h
            refine J.loud (Loud.callL body25 (t_ref03_Star fuel  r40 hr41) rfl (LentAll.nil) (fun _ _ => rfl)) rfl fun x42 => ?_
            refine J.quiet (Y.move rfl) rfl ?_
            refine J.quiet (Y.extract rfl rfl) rfl ?_
            refine J.quiet (Y.extract rfl rfl) rfl ?_
            refine J.know (Know.one ((Lent.ar (Lent.res 0 rfl) FI64))) fun ho43 => ?_
            refine J.know (Know.one (Lent.sl (Lent.rows (i := 1) (j := 2) rfl rfl FI64I64p))) fun ho44 => ?_
            refine J.storeAll 12 (vs := [x42.1, x42.2.1]) rfl rfl (all1 ho43 (all1 ho44 rfl)) rfl rfl rfl ?_
            refine J.quiet (Y.assign rfl) rfl ?_
            refine J.done ?_
            refine J.thenN ?_
            refine J.seq ?_
            refine J.seq ?_
            refine J.midI (A := Bool) (B := Unit) (fun a46 => law03_FamilyMakes_k3 fuel p0 p1 p2 p3 a46 = some r) (fun a46 b47 => [(0, Value.int .i64 (p0)), (1, Value.int .i64 (p1)), (2, Value.int .i64 (p2)), (3, v0), (9, Value.pointer (some ⟨b8, 0, none⟩)), (11, Value.pointer (some ⟨b14, 0, none⟩)), (73, Value.bool (a46))]) (fun a46 b47 => [Ar EI64 x42.1 r40.1.1, Ar Enc.raw x42.2.1 x42.2.2, Rws EI64I64p x42.2.2 r40.1.2, Ar EI64 x37.1 r35.1.1, Ar Enc.raw x37.2.1 x37.2.2, Rws EI64I64p x37.2.2 r35.1.2, Blk b14 [x42.1, x42.2.1] 26, Blk b8 [x37.1, x37.2.1] 26]) (fun a46 b47 => [Sl RI64 v0 p3]) ?_ ?_
            · refine J.region ?_
              refine J.quiet (Y.loadBAll 13 rfl rfl rfl rfl) rfl ?_
              refine J.quiet (Y.loadBAll 12 rfl rfl rfl rfl) rfl ?_
              replace h := bnd h; obtain ⟨r106, hr107, h⟩ := h
              refine J.loud (Loud.callL body21 (t_ref01_Same fuel x37.1 x37.2.1 (List.zip x37.2.2 r35.1.2) x42.1 x42.2.1 (List.zip x42.2.2 r40.1.2) r106 hr107) rfl (LentAll.cons (Lent.ar (Lent.res 3 rfl) FI64) (LentAll.cons (Lent.rows (i := 4) (j := 5) rfl rfl FI64I64p) (LentAll.cons (Lent.ar (Lent.res 0 rfl) FI64) (LentAll.cons (Lent.rows (i := 1) (j := 2) rfl rfl FI64I64p) (LentAll.nil))))) (fun _ _ => rfl)) rfl fun x108 => ?_
              refine J.quiet (Y.not rfl) rfl ?_
              refine J.quiet (Y.move rfl) rfl ?_
              refine J.guard (by exact rfl) (by exact rfl) (fun hp109 => ?_) (fun hp109 => ?_)
              · replace h := ifP hp109 h
                refine J.guardN rfl rfl rfl ?_
                refine J.guardN rfl rfl rfl ?_
                refine J.guardN rfl rfl rfl ?_
                refine J.quiet (Y.pickT rfl rfl) rfl ?_
                refine J.done ?_
                refine J.thenN ?_
                exact J.meetI (true) (()) h (by repeat (first | exact SubF.nil | refine SubF.cons rfl ?_)) (SubM.cons 0 rfl (SubM.cons 0 rfl (SubM.cons 0 rfl (SubM.cons 0 rfl (SubM.cons 0 rfl (SubM.cons 0 rfl (SubM.cons 6 rfl (SubM.cons 6 rfl (SubM.nil))))))))) (LentAll.refl _ _)
              · replace h := ifBN hp109 h
                refine J.guardY rfl (Y.move rfl) rfl ?_
                refine J.guardY rfl (Y.move rfl) rfl ?_
                refine J.guardY rfl (Y.neq rfl rfl) rfl ?_
                refine J.quiet (Y.pickF rfl rfl) rfl ?_
                refine J.done ?_
                refine J.thenN ?_
                exact J.meetI (decide (r35.2 ≠ r40.2)) (()) h (by repeat (first | exact SubF.nil | refine SubF.cons rfl ?_)) (SubM.cons 0 rfl (SubM.cons 0 rfl (SubM.cons 0 rfl (SubM.cons 0 rfl (SubM.cons 0 rfl (SubM.cons 0 rfl (SubM.cons 6 rfl (SubM.cons 6 rfl (SubM.nil))))))))) (LentAll.refl _ _)
            · clear h
              intro a46 b47 h
              unfold law03_FamilyMakes_k3 at h
              refine J.cond (by exact rfl) (fun hp48 => ?_) (fun hp48 => ?_)
              · replace h := ifP hp48 h
                refine J.seq ?_
                refine J.region ?_
                refine J.quiet (Y.assign rfl) rfl ?_
                refine J.done ?_
                refine J.thenN ?_
                refine J.ret ?_
                refine J.thenR ?_
                obtain rfl := Option.some.inj h
                exact J.retG1 (()) rfl rfl (RV.tmp rfl) (SubM.nil) LentAll.nil
              · replace h := ifBN hp48 h
                refine J.skip ?_
                refine J.thenN ?_
                refine J.seq ?_
                refine J.region ?_
                refine J.quiet (Y.move rfl) rfl ?_
                replace h := bnd h; obtain ⟨r49, hr50, h⟩ := h
                refine J.loud (Loud.callL body26 (t_family_Complete fuel  r49 hr50) rfl (LentAll.nil) (fun _ _ => rfl)) rfl fun x51 => ?_
                refine J.quiet (Y.move rfl) rfl ?_
                refine J.quiet (Y.extract rfl rfl) rfl ?_
                refine J.quiet (Y.extract rfl rfl) rfl ?_
                refine J.know (Know.one ((Lent.ar (Lent.res 0 rfl) FI64))) fun ho52 => ?_
                refine J.know (Know.one (Lent.sl (Lent.rows (i := 1) (j := 2) rfl rfl FI64I64p))) fun ho53 => ?_
                refine J.storeAll 10 (vs := [x51.1, x51.2.1]) rfl rfl (all1 ho52 (all1 ho53 rfl)) rfl rfl rfl ?_
                refine J.quiet (Y.assign rfl) rfl ?_
                refine J.done ?_
                refine J.thenN ?_
                refine J.seq ?_
                refine J.region ?_
                refine J.quiet (Y.move rfl) rfl ?_
                replace h := bnd h; obtain ⟨r54, hr55, h⟩ := h
                refine J.loud (Loud.callL body27 (t_ref03_Complete fuel  r54 hr55) rfl (LentAll.nil) (fun _ _ => rfl)) rfl fun x56 => ?_
                refine J.quiet (Y.move rfl) rfl ?_
                refine J.quiet (Y.extract rfl rfl) rfl ?_
                refine J.quiet (Y.extract rfl rfl) rfl ?_
                refine J.know (Know.one ((Lent.ar (Lent.res 0 rfl) FI64))) fun ho57 => ?_
                refine J.know (Know.one (Lent.sl (Lent.rows (i := 1) (j := 2) rfl rfl FI64I64p))) fun ho58 => ?_
                refine J.storeAll 12 (vs := [x56.1, x56.2.1]) rfl rfl (all1 ho57 (all1 ho58 rfl)) rfl rfl rfl ?_
                refine J.quiet (Y.assign rfl) rfl ?_
                refine J.done ?_
                refine J.thenN ?_
                refine J.seq ?_
                refine J.seq ?_
                refine J.midI (A := Bool) (B := Unit) (fun a60 => law03_FamilyMakes_k4 fuel p1 p2 p3 a60 = some r) (fun a60 b61 => [(1, Value.int .i64 (p1)), (2, Value.int .i64 (p2)), (3, v0), (9, Value.pointer (some ⟨b8, 0, none⟩)), (11, Value.pointer (some ⟨b14, 0, none⟩)), (92, Value.bool (a60))]) (fun a60 b61 => [Ar EI64 x56.1 r54.1.1, Ar Enc.raw x56.2.1 x56.2.2, Rws EI64I64p x56.2.2 r54.1.2, Ar EI64 x51.1 r49.1.1, Ar Enc.raw x51.2.1 x51.2.2, Rws EI64I64p x51.2.2 r49.1.2, Blk b14 [x56.1, x56.2.1] 26, Blk b8 [x51.1, x51.2.1] 26]) (fun a60 b61 => [Sl RI64 v0 p3]) ?_ ?_
                · refine J.region ?_
                  refine J.quiet (Y.loadBAll 13 rfl rfl rfl rfl) rfl ?_
                  refine J.quiet (Y.loadBAll 12 rfl rfl rfl rfl) rfl ?_
                  replace h := bnd h; obtain ⟨r102, hr103, h⟩ := h
                  refine J.loud (Loud.callL body21 (t_ref01_Same fuel x51.1 x51.2.1 (List.zip x51.2.2 r49.1.2) x56.1 x56.2.1 (List.zip x56.2.2 r54.1.2) r102 hr103) rfl (LentAll.cons (Lent.ar (Lent.res 3 rfl) FI64) (LentAll.cons (Lent.rows (i := 4) (j := 5) rfl rfl FI64I64p) (LentAll.cons (Lent.ar (Lent.res 0 rfl) FI64) (LentAll.cons (Lent.rows (i := 1) (j := 2) rfl rfl FI64I64p) (LentAll.nil))))) (fun _ _ => rfl)) rfl fun x104 => ?_
                  refine J.quiet (Y.not rfl) rfl ?_
                  refine J.quiet (Y.move rfl) rfl ?_
                  refine J.guard (by exact rfl) (by exact rfl) (fun hp105 => ?_) (fun hp105 => ?_)
                  · replace h := ifP hp105 h
                    refine J.guardN rfl rfl rfl ?_
                    refine J.guardN rfl rfl rfl ?_
                    refine J.guardN rfl rfl rfl ?_
                    refine J.quiet (Y.pickT rfl rfl) rfl ?_
                    refine J.done ?_
                    refine J.thenN ?_
                    exact J.meetI (true) (()) h (by repeat (first | exact SubF.nil | refine SubF.cons rfl ?_)) (SubM.cons 0 rfl (SubM.cons 0 rfl (SubM.cons 0 rfl (SubM.cons 0 rfl (SubM.cons 0 rfl (SubM.cons 0 rfl (SubM.cons 6 rfl (SubM.cons 6 rfl (SubM.nil))))))))) (LentAll.refl _ _)
                  · replace h := ifBN hp105 h
                    refine J.guardY rfl (Y.move rfl) rfl ?_
                    refine J.guardY rfl (Y.move rfl) rfl ?_
                    refine J.guardY rfl (Y.neq rfl rfl) rfl ?_
                    refine J.quiet (Y.pickF rfl rfl) rfl ?_
                    refine J.done ?_
                    refine J.thenN ?_
                    exact J.meetI (decide (r49.2 ≠ r54.2)) (()) h (by repeat (first | exact SubF.nil | refine SubF.cons rfl ?_)) (SubM.cons 0 rfl (SubM.cons 0 rfl (SubM.cons 0 rfl (SubM.cons 0 rfl (SubM.cons 0 rfl (SubM.cons 0 rfl (SubM.cons 6 rfl (SubM.cons 6 rfl (SubM.nil))))))))) (LentAll.refl _ _)
                · clear h
                  intro a60 b61 h
                  unfold law03_FamilyMakes_k4 at h
                  refine J.cond (by exact rfl) (fun hp62 => ?_) (fun hp62 => ?_)
                  · replace h := ifP hp62 h
                    refine J.seq ?_
                    refine J.region ?_
                    refine J.quiet (Y.assign rfl) rfl ?_
                    refine J.done ?_
                    refine J.thenN ?_
                    refine J.ret ?_
                    refine J.thenR ?_
                    obtain rfl := Option.some.inj h
                    exact J.retG1 (()) rfl rfl (RV.tmp rfl) (SubM.nil) LentAll.nil
                  · replace h := ifBN hp62 h
                    refine J.skip ?_
                    refine J.thenN ?_
                    refine J.seq ?_
                    refine J.region ?_
                    refine J.quiet (Y.move rfl) rfl ?_
                    refine J.quiet (Y.move rfl) rfl ?_
                    replace h := bnd h; obtain ⟨r63, hr64, h⟩ := h
                    refine J.loud (Loud.callL body28 (t_family_Grid fuel  r63 hr64) rfl (LentAll.nil) (fun _ _ => rfl)) rfl fun x65 => ?_
                    refine J.quiet (Y.move rfl) rfl ?_
                    refine J.quiet (Y.extract rfl rfl) rfl ?_
                    refine J.quiet (Y.extract rfl rfl) rfl ?_
                    refine J.know (Know.one ((Lent.ar (Lent.res 0 rfl) FI64))) fun ho66 => ?_
                    refine J.know (Know.one (Lent.sl (Lent.rows (i := 1) (j := 2) rfl rfl FI64I64p))) fun ho67 => ?_
                    refine J.storeAll 10 (vs := [x65.1, x65.2.1]) rfl rfl (all1 ho66 (all1 ho67 rfl)) rfl rfl rfl ?_
                    refine J.quiet (Y.assign rfl) rfl ?_
                    refine J.done ?_
                    refine J.thenN ?_
                    refine J.seq ?_
                    refine J.region ?_
                    refine J.quiet (Y.move rfl) rfl ?_
                    refine J.quiet (Y.move rfl) rfl ?_
                    replace h := bnd h; obtain ⟨r68, hr69, h⟩ := h
                    refine J.loud (Loud.callL body29 (t_ref03_Grid fuel  r68 hr69) rfl (LentAll.nil) (fun _ _ => rfl)) rfl fun x70 => ?_
                    refine J.quiet (Y.move rfl) rfl ?_
                    refine J.quiet (Y.extract rfl rfl) rfl ?_
                    refine J.quiet (Y.extract rfl rfl) rfl ?_
                    refine J.know (Know.one ((Lent.ar (Lent.res 0 rfl) FI64))) fun ho71 => ?_
                    refine J.know (Know.one (Lent.sl (Lent.rows (i := 1) (j := 2) rfl rfl FI64I64p))) fun ho72 => ?_
                    refine J.storeAll 12 (vs := [x70.1, x70.2.1]) rfl rfl (all1 ho71 (all1 ho72 rfl)) rfl rfl rfl ?_
                    refine J.quiet (Y.assign rfl) rfl ?_
                    refine J.done ?_
                    refine J.thenN ?_
                    refine J.seq ?_
                    refine J.seq ?_
                    refine J.midI (A := Bool) (B := Unit) (fun a74 => law03_FamilyMakes_k5 fuel p3 a74 = some r) (fun a74 b75 => [(3, v0), (9, Value.pointer (some ⟨b8, 0, none⟩)), (11, Value.pointer (some ⟨b14, 0, none⟩)), (113, Value.bool (a74))]) (fun a74 b75 => [Ar EI64 x70.1 r68.1.1, Ar Enc.raw x70.2.1 x70.2.2, Rws EI64I64p x70.2.2 r68.1.2, Ar EI64 x65.1 r63.1.1, Ar Enc.raw x65.2.1 x65.2.2, Rws EI64I64p x65.2.2 r63.1.2, Blk b14 [x70.1, x70.2.1] 26, Blk b8 [x65.1, x65.2.1] 26]) (fun a74 b75 => [Sl RI64 v0 p3]) ?_ ?_
                    · refine J.region ?_
                      refine J.quiet (Y.loadBAll 13 rfl rfl rfl rfl) rfl ?_
                      refine J.quiet (Y.loadBAll 12 rfl rfl rfl rfl) rfl ?_
                      replace h := bnd h; obtain ⟨r98, hr99, h⟩ := h
                      refine J.loud (Loud.callL body21 (t_ref01_Same fuel x65.1 x65.2.1 (List.zip x65.2.2 r63.1.2) x70.1 x70.2.1 (List.zip x70.2.2 r68.1.2) r98 hr99) rfl (LentAll.cons (Lent.ar (Lent.res 3 rfl) FI64) (LentAll.cons (Lent.rows (i := 4) (j := 5) rfl rfl FI64I64p) (LentAll.cons (Lent.ar (Lent.res 0 rfl) FI64) (LentAll.cons (Lent.rows (i := 1) (j := 2) rfl rfl FI64I64p) (LentAll.nil))))) (fun _ _ => rfl)) rfl fun x100 => ?_
                      refine J.quiet (Y.not rfl) rfl ?_
                      refine J.quiet (Y.move rfl) rfl ?_
                      refine J.guard (by exact rfl) (by exact rfl) (fun hp101 => ?_) (fun hp101 => ?_)
                      · replace h := ifP hp101 h
                        refine J.guardN rfl rfl rfl ?_
                        refine J.guardN rfl rfl rfl ?_
                        refine J.guardN rfl rfl rfl ?_
                        refine J.quiet (Y.pickT rfl rfl) rfl ?_
                        refine J.done ?_
                        refine J.thenN ?_
                        exact J.meetI (true) (()) h (by repeat (first | exact SubF.nil | refine SubF.cons rfl ?_)) (SubM.cons 0 rfl (SubM.cons 0 rfl (SubM.cons 0 rfl (SubM.cons 0 rfl (SubM.cons 0 rfl (SubM.cons 0 rfl (SubM.cons 6 rfl (SubM.cons 6 rfl (SubM.nil))))))))) (LentAll.refl _ _)
                      · replace h := ifBN hp101 h
                        refine J.guardY rfl (Y.move rfl) rfl ?_
                        refine J.guardY rfl (Y.move rfl) rfl ?_
                        refine J.guardY rfl (Y.neq rfl rfl) rfl ?_
                        refine J.quiet (Y.pickF rfl rfl) rfl ?_
                        refine J.done ?_
                        refine J.thenN ?_
                        exact J.meetI (decide (r63.2 ≠ r68.2)) (()) h (by repeat (first | exact SubF.nil | refine SubF.cons rfl ?_)) (SubM.cons 0 rfl (SubM.cons 0 rfl (SubM.cons 0 rfl (SubM.cons 0 rfl (SubM.cons 0 rfl (SubM.cons 0 rfl (SubM.cons 6 rfl (SubM.cons 6 rfl (SubM.nil))))))))) (LentAll.refl _ _)
                    · clear h
                      intro a74 b75 h
                      unfold law03_FamilyMakes_k5 at h
                      refine J.cond (by exact rfl) (fun hp76 => ?_) (fun hp76 => ?_)
                      · replace h := ifP hp76 h
                        refine J.seq ?_
                        refine J.region ?_
                        refine J.quiet (Y.assign rfl) rfl ?_
                        refine J.done ?_
                        refine J.thenN ?_
                        refine J.ret ?_
                        refine J.thenR ?_
                        obtain rfl := Option.some.inj h
                        exact J.retG1 (()) rfl rfl (RV.tmp rfl) (SubM.nil) LentAll.nil
                      · replace h := ifBN hp76 h
                        refine J.skip ?_
                        refine J.thenN ?_
                        refine J.seq ?_
                        refine J.region ?_
                        refine J.quiet (Y.move rfl) rfl ?_
                        replace h := bnd h; obtain ⟨r77, hr78, h⟩ := h
                        refine J.loud (Loud.callL body30 (t_family_FromParents fuel v0 r77 hr78) rfl (LentAll.cons (Lent.fact 0 rfl) (LentAll.nil)) (fun _ _ => rfl)) rfl fun x79 => ?_
                        refine J.quiet (Y.move rfl) rfl ?_
                        refine J.quiet (Y.extract rfl rfl) rfl ?_
                        refine J.quiet (Y.extract rfl rfl) rfl ?_
                        refine J.know (Know.one ((Lent.ar (Lent.res 0 rfl) FI64))) fun ho80 => ?_
                        refine J.know (Know.one (Lent.sl (Lent.rows (i := 1) (j := 2) rfl rfl FI64I64p))) fun ho81 => ?_
                        refine J.storeAll 10 (vs := [x79.1, x79.2.1]) rfl rfl (all1 ho80 (all1 ho81 rfl)) rfl rfl rfl ?_
                        refine J.quiet (Y.assign rfl) rfl ?_
                        refine J.done ?_
                        refine J.thenN ?_
                        refine J.seq ?_
                        refine J.region ?_
                        refine J.quiet (Y.move rfl) rfl ?_
                        replace h := bnd h; obtain ⟨r82, hr83, h⟩ := h
                        refine J.loud (Loud.callL body31 (t_ref03_FromParents fuel v0 r82 hr83) rfl (LentAll.cons (Lent.fact 0 rfl) (LentAll.nil)) (fun _ _ => rfl)) rfl fun x84 => ?_
                        refine J.quiet (Y.move rfl) rfl ?_
                        refine J.quiet (Y.extract rfl rfl) rfl ?_
                        refine J.quiet (Y.extract rfl rfl) rfl ?_
                        refine J.know (Know.one ((Lent.ar (Lent.res 0 rfl) FI64))) fun ho85 => ?_
                        refine J.know (Know.one (Lent.sl (Lent.rows (i := 1) (j := 2) rfl rfl FI64I64p))) fun ho86 => ?_
                        refine J.storeAll 12 (vs := [x84.1, x84.2.1]) rfl rfl (all1 ho85 (all1 ho86 rfl)) rfl rfl rfl ?_
                        refine J.quiet (Y.assign rfl) rfl ?_
                        refine J.done ?_
                        refine J.thenN ?_
                        refine J.seq ?_
                        refine J.midI (A := Bool) (B := Unit) (fun a88 => law03_FamilyMakes_k6  a88 = some r) (fun a88 b89 => [(8, Value.bool (a88))]) (fun a88 b89 => []) (fun a88 b89 => [Sl RI64 v0 p3]) ?_ ?_
                        · refine J.region ?_
                          replace h := bnd h; obtain ⟨r90, hr91, h⟩ := h
                          refine J.loud (Loud.callL body18 (t_law03_awake fuel  r90 hr91) rfl (LentAll.nil) (fun _ _ => rfl)) rfl fun x92 => ?_
                          refine J.quiet (Y.move rfl) rfl ?_
                          refine J.guard (by exact rfl) (by exact rfl) (fun hp93 => ?_) (fun hp93 => ?_)
                          · replace h := ifP hp93 h
                            refine J.guardY rfl (Y.loadBAll 13 rfl rfl rfl rfl) rfl ?_
                            refine J.guardY rfl (Y.loadBAll 12 rfl rfl rfl rfl) rfl ?_
                            replace h := bnd h; obtain ⟨r94, hr95, h⟩ := h
                            refine J.loudG rfl (Loud.callL body21 (t_ref01_Same fuel x79.1 x79.2.1 (List.zip x79.2.2 r77.1.2) x84.1 x84.2.1 (List.zip x84.2.2 r82.1.2) r94 hr95) rfl (LentAll.cons (Lent.ar (Lent.res 3 rfl) FI64) (LentAll.cons (Lent.rows (i := 4) (j := 5) rfl rfl FI64I64p) (LentAll.cons (Lent.ar (Lent.res 0 rfl) FI64) (LentAll.cons (Lent.rows (i := 1) (j := 2) rfl rfl FI64I64p) (LentAll.nil))))) (fun _ _ => rfl)) rfl fun x96 => ?_
                            refine J.quiet (Y.pickT rfl rfl) rfl ?_
                            refine J.quiet (Y.move rfl) rfl ?_
                            refine J.guard (by exact rfl) (by exact rfl) (fun hp97 => ?_) (fun hp97 => ?_)
                            · replace h := ifP hp97 h
                              refine J.guardY rfl (Y.move rfl) rfl ?_
                              refine J.guardY rfl (Y.move rfl) rfl ?_
                              refine J.guardY rfl (Y.eql rfl rfl) rfl ?_
                              refine J.quiet (Y.pickT rfl rfl) rfl ?_
                              refine J.quiet (Y.assign rfl) rfl ?_
                              refine J.done ?_
                              refine J.thenN ?_
                              exact J.meetI (decide (r77.2 = r82.2)) (()) h (by repeat (first | exact SubF.nil | refine SubF.cons rfl ?_)) (SubM.nil) (LentAll.refl _ _)
                            · replace h := ifBN hp97 h
                              refine J.guardN rfl rfl rfl ?_
                              refine J.guardN rfl rfl rfl ?_
                              refine J.guardN rfl rfl rfl ?_
                              refine J.quiet (Y.pickF rfl rfl) rfl ?_
                              refine J.quiet (Y.assign rfl) rfl ?_
                              refine J.done ?_
                              refine J.thenN ?_
                              exact J.meetI (false) (()) h (by repeat (first | exact SubF.nil | refine SubF.cons rfl ?_)) (SubM.nil) (LentAll.refl _ _)
                          · replace h := ifBN hp93 h
                            refine J.guardN rfl rfl rfl ?_
                            refine J.guardN rfl rfl rfl ?_
                            refine J.guardN rfl rfl rfl ?_
                            refine J.quiet (Y.pickF rfl rfl) rfl ?_
                            refine J.quiet (Y.move rfl) rfl ?_
                            refine J.guardN rfl rfl rfl ?_
                            refine J.guardN rfl rfl rfl ?_
                            refine J.guardN rfl rfl rfl ?_
                            refine J.quiet (Y.pickF rfl rfl) rfl ?_
                            refine J.quiet (Y.assign rfl) rfl ?_
                            refine J.done ?_
                            refine J.thenN ?_
                            exact J.meetI (false) (()) h (by repeat (first | exact SubF.nil | refine SubF.cons rfl ?_)) (SubM.nil) (LentAll.refl _ _)
                        · clear h
                          intro a88 b89 h
                          unfold law03_FamilyMakes_k6 at h
                          refine J.ret ?_
                          obtain rfl := Option.some.inj h
                          exact J.retG1 (()) rfl rfl (RV.tmp rfl) (SubM.refl _) LentAll.nil

end Go.Proofs.Ytemhmmcakmidkaa
