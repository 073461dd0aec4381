/- What a car shows (own work). -/
import Derived.Test.YtidnlehjabhclaaDoorC3
namespace Go.Proofs.YtidnlehjabhclaaDoor.Sp
open Go Sy
set_option linter.unusedVariables false
set_option linter.unusedSimpArgs false

theorem open_val (d : Int) : F44 d = (3, d, d) := rfl
theorem nearer_bd (h : Bool × Bool × Bool × Int × Int × Int) : 0 ≤ F43 h ∧ F43 h ≤ 2 := by
  unfold F43
  simp only [cond_eq_ite]
  repeat' split
  all_goals omega
theorem shown_bd (x : Int × Bool × Int × Int × Bool × Int) (h1 : 0 ≤ x.1 ∧ x.1 ≤ 2) (h2 : 0 ≤ x.2.2.2.1 ∧ x.2.2.2.1 ≤ 2) : 0 ≤ F45 x ∧ F45 x ≤ 2 := by
  unfold F45
  simp only [cond_eq_ite]
  repeat' split
  all_goals omega
theorem falling_bd (h : Bool × Bool × Bool × Int × Int × Int) : 0 ≤ (F30 h).2.2 ∧ (F30 h).2.2 ≤ 2 := by
  unfold F30
  simp only [cond_eq_ite, open_val]
  repeat' split
  all_goals dsimp only
  all_goals first | (refine shown_bd _ ?_ ?_ <;> (dsimp only; omega)) | omega
theorem rising_bd (h : Bool × Bool × Bool × Int × Int × Int) : 0 ≤ (F29 h).2.2 ∧ (F29 h).2.2 ≤ 2 := by
  unfold F29
  simp only [cond_eq_ite, open_val]
  repeat' split
  all_goals (try dsimp only)
  all_goals first | exact falling_bd _ | (refine shown_bd _ ?_ ?_ <;> (dsimp only; omega)) | omega
theorem resting_bd (h : Bool × Bool × Bool × Int × Int × Int) : 0 ≤ (F28 h).2.2 ∧ (F28 h).2.2 ≤ 2 := by
  unfold F28
  simp only [cond_eq_ite, open_val]
  repeat' split
  all_goals dsimp only
  all_goals first | exact nearer_bd _ | omega
theorem rules0 (h : Bool × Bool × Bool × Int × Int × Int) : Rules (Option.getD (nthT [(some 28), (some 29), (some 30)] 0) 0) h = F28 h := rfl
theorem rules1 (h : Bool × Bool × Bool × Int × Int × Int) : Rules (Option.getD (nthT [(some 28), (some 29), (some 30)] 1) 0) h = F29 h := rfl
theorem rules2 (h : Bool × Bool × Bool × Int × Int × Int) : Rules (Option.getD (nthT [(some 28), (some 29), (some 30)] 2) 0) h = F30 h := rfl
theorem choose_bd (x : Int × (Int × Int) × Int × Int × Int × Int) (h0 : 0 ≤ x.2.1.1) (h2 : x.2.1.1 ≤ 2) : 0 ≤ (F18 x).1.2.2 ∧ (F18 x).1.2.2 ≤ 2 := by
  unfold F18
  have : x.2.1.1 = 0 ∨ x.2.1.1 = 1 ∨ x.2.1.1 = 2 := by omega
  rcases this with h | h | h <;> rw [h]
  · rw [rules0]; exact resting_bd _
  · rw [rules1]; exact rising_bd _
  · rw [rules2]; exact falling_bd _
end Go.Proofs.YtidnlehjabhclaaDoor.Sp
