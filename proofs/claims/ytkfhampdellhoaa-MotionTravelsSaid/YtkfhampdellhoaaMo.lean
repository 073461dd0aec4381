/- Contracts of package motion and of its reference (layer 13). -/
import Derived.Test.YtkfhampdellhoaaProg
import Derived.Test.YtkfhampdellhoaaAid
namespace Go.Proofs.Ytkfhampdellhoaa.Mo
open Go.RowKit Go.Proofs.Ytkfhampdellhoaa
set_option linter.unusedSimpArgs false
set_option linter.unusedVariables false

def toB (f c : Int) : Int := if c = 1 then wrap64 (f + 1) else if c = 2 then wrap64 (f + -1) else 0
def okB (fl f c : Int) : Bool := decide ((c = 1 ∨ c = 2) ∧ 0 ≤ toB f c ∧ toB f c < fl)
set_option maxHeartbeats 400000 in
theorem beside_any (fl f c : Int) (w : World) :
    Calls Try.prog 22 #[.int .i64 fl, .int .i64 f, .int .i64 c] w fun e w' => e = .returned (.tuple #[.int .i64 (toB f c), .bool (okB fl f c)]) ∧ w = w' := by
  have i1 : ∀ w, (Instr.index 47 (.agg #[.int .i64 0, .int .i64 1, .int .i64 (-1)]) (.int .i64 1)).run Try.prog w = .ok (.int .i64 1) w := fun _ => by kernel_rfl
  have i2 : ∀ w, (Instr.index 47 (.agg #[.int .i64 0, .int .i64 1, .int .i64 (-1)]) (.int .i64 2)).run Try.prog w = .ok (.int .i64 (-1)) w := fun _ => by kernel_rfl
  by_cases h1 : c = 1
  · subst h1
    go_enter Try.func22, Try.ntmps22
    go_wp2
    all_goals (go_ret2; refine ⟨?_, rfl⟩; simp [toB, okB, *]; try omega)
  by_cases h2 : c = 2
  · subst h2
    clear h1
    go_enter Try.func22, Try.ntmps22
    go_wp2
    all_goals (go_ret2; refine ⟨?_, rfl⟩; simp [toB, okB, *]; try omega)
  · have h1' : (c != 1) = true := by simp; omega
    have h2' : (c != 2) = true := by simp; omega
    go_enter Try.func22, Try.ntmps22
    go_wp2
    all_goals (go_ret2; refine ⟨?_, rfl⟩; simp [toB, okB, h1, h2])

def isSt (fl c t f : Int) : Bool := decide (2 ≤ fl ∧ fl ≤ 32 ∧ 0 ≤ t ∧ t ≤ 1000000 ∧ (c = 0 ∧ f = 0 ∨ c = 1 ∧ 0 ≤ f ∧ f + 1 < fl ∨ c = 2 ∧ 1 ≤ f ∧ f < fl))

theorem okB_eq (fl f c : Int) (h1 : 2 ≤ fl) (h2 : fl ≤ 32) (h3 : 0 ≤ f) (h4 : f < fl) : (okB fl f c = true) ↔ (c = 1 ∧ f + 1 < fl ∨ c = 2 ∧ 1 ≤ f) := by
  unfold okB toB
  have e1 : wrap64 (f + 1) = f + 1 := IntWalk.wrap64_in _ ⟨by omega, by omega⟩
  have e2 : wrap64 (f + -1) = f + -1 := IntWalk.wrap64_in _ ⟨by omega, by omega⟩
  rw [e1, e2]
  by_cases c1 : c = 1
  · subst c1; simp; omega
  by_cases c2 : c = 2
  · subst c2; simp; omega
  simp [c1, c2]

theorem isSt_bd {fl c t f : Int} (h : isSt fl c t f = true) : 2 ≤ fl ∧ fl ≤ 32 ∧ 0 ≤ t ∧ t ≤ 1000000 ∧ 0 ≤ f ∧ f < fl := by
  simp [isSt] at h; omega

set_option maxHeartbeats 400000 in
theorem isState_any (fl c t f : Int) (w : World) :
    Calls Try.prog 21 #[.int .i64 fl, .agg #[.int .i64 c, .int .i64 t, .int .i64 f]] w fun e w' => e = .returned (.bool (isSt fl c t f)) ∧ Below w.heap.size w w' := by
  go_enter Try.func21, Try.ntmps21
  go_wp2_with (go_at_call 22; refine (beside_any _ _ _ _).mono ?_; rintro e w' ⟨rfl, rfl⟩)
  all_goals go_ret
  all_goals refine ⟨ret_iff ?_, by go_grown⟩
  all_goals first | (simp only [beq_iff_eq, beq_eq_false_iff_ne, Bool.false_eq_true, false_iff] at *; omega) | (rw [okB_eq] <;> (simp only [beq_iff_eq, beq_eq_false_iff_ne, Bool.false_eq_true, false_iff] at *; omega))

def stepV (fl c t f fbF want : Int) (lv : Bool) : Value :=
  if isSt fl c t f = true ∧ 0 ≤ fbF ∧ fbF < fl then
    if okB fl f c = true ∧ lv = true ∧ fbF = toB f c then .tuple #[.agg #[.int .i64 0, .int .i64 0, .int .i64 0], .int .i64 0, .bool true]
    else if okB fl f c = true ∨ lv = false then .tuple #[.agg #[.int .i64 c, .int .i64 (min (t + 1) 1000000), .int .i64 f], .int .i64 c, .bool false]
    else if okB fl fbF want = true then .tuple #[.agg #[.int .i64 want, .int .i64 0, .int .i64 fbF], .int .i64 want, .bool false]
    else .tuple #[.agg #[.int .i64 0, .int .i64 0, .int .i64 0], .int .i64 0, .bool false]
  else .tuple #[.agg #[.int .i64 0, .int .i64 0, .int .i64 0], .int .i64 0, .bool false]

set_option maxHeartbeats 800000 in
theorem step_any (fl c t f fbF dr want : Int) (lv bl : Bool) (w : World) :
    Calls Try.prog 10 #[.int .i64 fl, .agg #[.int .i64 c, .int .i64 t, .int .i64 f], .agg #[.int .i64 fbF, .bool lv, .int .i64 dr, .bool bl], .int .i64 want] w fun e w' => e = .returned (stepV fl c t f fbF want lv) ∧ Below w.heap.size w w' := by
  by_cases hs : isSt fl c t f = true
  · obtain ⟨b1, b2, b3, b4, b5, b6⟩ := isSt_bd hs
    go_enter Try.func10, Try.ntmps10
    go_wp2_with (first | (go_at_call 22; refine (beside_any _ _ _ _).mono ?_; rintro e w' ⟨rfl, rfl⟩) | (go_at_call 21; refine (isState_any _ _ _ _ _).mono ?_; rintro e w' ⟨rfl, hb⟩; obtain ⟨g, rfl⟩ := ext_of hb; clear hb))
    all_goals first | go_returns | (go_region; all_goals (go_wp2; go_returns))
    all_goals refine ⟨?_, by (repeat' (first | with_reducible exact Below.refl _ _ | with_reducible assumption | with_reducible refine below_ext ?_ ?_ _ | with_reducible refine Below.alloc ?_ ?_ _ | with_reducible refine Below.drew ?_ | with_reducible exact Nat.le_refl _ | (simp only [World.size_alloc, World.size_setCell, World.size_drew, size_ext, add_add_n, add_drew_n]; omega) | (simp; omega)))⟩
    all_goals (congr 1; (try simp only [beq_iff_eq, beq_eq_false_iff_ne, bne_iff_ne, bne_eq_false_iff_eq, ne_eq, Bool.not_eq_true, Bool.not_eq_true', Bool.not_eq_false', Bool.not_eq_false, Bool.false_eq_true, Bool.true_eq_false, false_iff, true_iff, decide_eq_true_eq, decide_eq_false_iff_not, Bool.and_eq_true, Bool.or_eq_true, Bool.and_eq_false_iff, Bool.or_eq_false_iff] at *); simp [stepV, *]; try omega)
  · go_enter Try.func10, Try.ntmps10
    go_wp2_with (first | (go_at_call 22; refine (beside_any _ _ _ _).mono ?_; rintro e w' ⟨rfl, rfl⟩) | (go_at_call 21; refine (isState_any _ _ _ _ _).mono ?_; rintro e w' ⟨rfl, hb⟩; obtain ⟨g, rfl⟩ := ext_of hb; clear hb))
    all_goals go_returns
    all_goals refine ⟨?_, by (repeat' (first | with_reducible exact Below.refl _ _ | with_reducible assumption | with_reducible refine below_ext ?_ ?_ _ | with_reducible refine Below.alloc ?_ ?_ _ | with_reducible refine Below.drew ?_ | with_reducible exact Nat.le_refl _ | (simp only [World.size_alloc, World.size_setCell, World.size_drew, size_ext, add_add_n, add_drew_n]; omega) | (simp; omega)))⟩
    all_goals (congr 1; simp [stepV, *])
end Go.Proofs.Ytkfhampdellhoaa.Mo
