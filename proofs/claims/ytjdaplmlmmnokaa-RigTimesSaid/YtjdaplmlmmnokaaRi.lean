/- What a drive does in a tick, for the program and the reference (own work). -/
import Derived.Test.YtjdaplmlmmnokaaR4
import Derived.Test.YtjdaplmlmmnokaaSl
namespace Go.Proofs.Ytjdaplmlmmnokaa.Sp
open Go Sy
set_option linter.unusedVariables false
set_option linter.unusedSimpArgs false
/-- Floor, target, ticks left, door, aim, ticks. -/
abbrev RigT := Int × Int × Int × Int × Int × Int
def IsSt (fl : Int) (s : RigT) : Prop :=
  (2 ≤ fl ∧ fl ≤ 32) ∧ (0 ≤ s.1 ∧ s.1 ≤ fl - 1) ∧ (0 ≤ s.2.1 ∧ s.2.1 ≤ fl - 1) ∧ (-1 ≤ s.2.1 - s.1 ∧ s.2.1 - s.1 ≤ 1) ∧
  ((s.1 = s.2.1 ∧ s.2.2.1 = 0) ∨ (s.1 ≠ s.2.1 ∧ 1 ≤ s.2.2.1 ∧ s.2.2.1 ≤ 10000 ∧ s.2.2.2.1 = 2)) ∧
  ((s.2.2.2.1 = 0 ∧ (s.2.2.2.2.1 = 1 ∨ s.2.2.2.2.1 = 2) ∧ 1 ≤ s.2.2.2.2.2 ∧ s.2.2.2.2.2 ≤ 10000) ∨ ((s.2.2.2.1 = 1 ∨ s.2.2.2.1 = 2) ∧ s.2.2.2.2.1 = 0 ∧ s.2.2.2.2.2 = 0))
instance (fl : Int) (s : RigT) : Decidable (IsSt fl s) := by unfold IsSt; infer_instance
def moved (s : RigT) : RigT := if s.2.2.1 = 0 then (s.2.1, s.2) else s
def aimOf (s : RigT) (cmd : Int) : Int := if cmd = 3 then 1 else if cmd = 4 ∨ cmd = 5 then 2 else s.2.2.2.2.1
def doorOf (s : RigT) (to time : Int) : RigT :=
  if to = 0 ∨ s.2.2.2.1 = to then s
  else
    let n := if s.2.2.2.1 = 0 ∧ s.2.2.2.2.1 = to then s.2.2.2.2.2 - 1 else time - 1
    if n = 0 then (s.1, s.2.1, s.2.2.1, to, 0, 0) else (s.1, s.2.1, s.2.2.1, 0, to, n)
def nextOf (s : RigT) (cmd : Int) : Int := if cmd = 1 then s.1 + 1 else if cmd = 2 then s.1 - 1 else s.1
def clampT (t : Int) : Int := min (max t 1) 10000
def stp (fl : Int) (s : RigT) (cmd time : Int) : RigT :=
  if ¬ IsSt fl s then (0, 0, 0, 2, 0, 0)
  else if s.2.2.1 ≠ 0 then moved (s.1, s.2.1, s.2.2.1 - 1, s.2.2.2)
  else if nextOf s cmd ≠ s.1 ∧ 0 ≤ nextOf s cmd ∧ nextOf s cmd ≤ fl - 1 ∧ s.2.2.2.1 = 2 then moved (s.1, nextOf s cmd, clampT time - 1, s.2.2.2)
  else doorOf s (aimOf s cmd) (clampT time)
theorem isstate_eq (fl : Int) (s : RigT) : F14 (fl, s) = decide (IsSt fl s) := by
  rw [Bool.eq_iff_iff, decide_eq_true_iff]
  simp only [F14, F19, IsSt, IntKind.wrap_i64, Bool.cond_eq_ite]
  split <;> (try split) <;> (try split) <;> simp only [Bool.or_eq_true, Bool.and_eq_true, Bool.not_eq_true', Bool.and_eq_false_iff, decide_eq_true_eq, decide_eq_false_iff_not, beq_iff_eq, bne_iff_ne, ne_eq, Bool.false_eq_true, false_iff] at * <;> omega
theorem risstate_eq (fl : Int) (s : RigT) : F24 (fl, s) = decide (IsSt fl s) := by
  rw [Bool.eq_iff_iff, decide_eq_true_iff]
  simp only [F24, F26, IsSt, IntKind.wrap_i64, Bool.cond_eq_ite]
  split <;> (try split) <;> (try split) <;> simp only [Bool.or_eq_true, Bool.and_eq_true, Bool.not_eq_true', Bool.and_eq_false_iff, decide_eq_true_eq, decide_eq_false_iff_not, beq_iff_eq, bne_iff_ne, ne_eq, Bool.false_eq_true, false_iff] at * <;> omega
theorem arrive_eq (s : RigT) : F18 s = moved s := by
  simp only [F18, moved, Bool.cond_eq_ite, beq_iff_eq]
theorem next_eq (s : RigT) (cmd : Int) (h : -100 ≤ s.1 ∧ s.1 ≤ 100) : F17 (s, cmd) = nextOf s cmd := by
  simp only [F17, nextOf, Bool.cond_eq_ite, beq_iff_eq]
  rw [wrap_i64_of (by omega) (by omega), wrap_i64_of (by omega) (by omega)]
theorem aim_eq (s : RigT) (cmd : Int) : F21 (s, cmd) = aimOf s cmd := by
  simp only [F21, aimOf, Bool.cond_eq_ite, beq_iff_eq]
  (repeat' split) <;> first | rfl | omega
theorem door_eq (s : RigT) (to time : Int) (h : 0 ≤ s.2.2.2.2.2 ∧ s.2.2.2.2.2 ≤ 10000) (ht : 1 ≤ time ∧ time ≤ 10000) : F20 (s, to, time) = doorOf s to time := by
  simp only [F20, doorOf, Bool.cond_eq_ite, beq_iff_eq, Bool.or_eq_true, Bool.and_eq_true]
  rw [wrap_i64_of (x := s.2.2.2.2.2 - 1) (by omega) (by omega), wrap_i64_of (x := time - 1) (by omega) (by omega)]
  by_cases h1 : to = 0 ∨ s.2.2.2.1 = to
  · simp only [h1, if_true]
  · simp only [h1, if_false]
    by_cases h2 : s.2.2.2.1 = 0 ∧ s.2.2.2.2.1 = to
    · simp only [h2, and_self, if_true]
      by_cases h3 : s.2.2.2.2.2 - 1 = 0 <;> simp [h3]
    · simp only [h2, if_false]
      by_cases h3 : time - 1 = 0 <;> simp [h3]
theorem step_eq (fl : Int) (s : RigT) (cmd time : Int) : F10 (fl, s, cmd, time) = stp fl s cmd time := by
  unfold F10 stp
  simp only [isstate_eq]
  by_cases h : IsSt fl s
  · have h' := h
    simp only [IsSt] at h'
    simp only [h, decide_true, not_true, if_false, Bool.not_true, cond_false]
    rw [wrap_i64_of (x := s.2.2.1 - 1) (by omega) (by omega), wrap_i64_of (x := fl - 1) (by omega) (by omega), wrap_i64_of (x := min (max time 1) 10000 - 1) (by omega) (by omega)]
    rw [arrive_eq, arrive_eq, next_eq s cmd (by omega), aim_eq, door_eq _ _ _ (by omega) (by omega)]
    simp only [F19, Bool.cond_eq_ite, bne_iff_ne, Bool.and_eq_true, decide_eq_true_eq, beq_iff_eq, ge_iff_le, and_assoc]
    rfl
  · simp [h]; rfl
end Go.Proofs.Ytjdaplmlmmnokaa.Sp
