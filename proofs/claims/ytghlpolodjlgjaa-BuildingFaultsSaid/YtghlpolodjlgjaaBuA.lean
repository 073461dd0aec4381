/- What building's smallest functions say (own work). -/
import Derived.Test.YtghlpolodjlgjaaT0
import Derived.Test.YtghlpolodjlgjaaSl
namespace Go.Proofs.Ytghlpolodjlgjaa.Sp
open Go Sy
set_option linter.unusedVariables false
set_option linter.unusedSimpArgs false
theorem within_eq (lo hi : Int) (l : List Int) (hl : l.length ≤ maxLen) : F17 (lo, hi, l) = l.all fun n => decide (lo ≤ n) && decide (n ≤ hi) := by
  unfold F17
  rw [← findSome_all]
  congr 1
  simp only [R17_2]
  rw [← findSome_range l]
  have := ret_row (step := st17_2) (k := (lo, hi, l, (l.length : Int))) (fun i => (i : Int)) (fun i => (fun n => if (decide (lo ≤ n) && decide (n ≤ hi)) = true then none else some false) (nthT l (i : Int))) l.length (fun i hi' => ?_) (k' := (lo, hi, l, (l.length : Int))) (y := (l.length : Int)) ?_ (fuel := Nat.succ (mu17_2 (lo, hi, l, (l.length : Int)) 0)) ?_
  · exact this
  · simp only [maxLen] at hl
    by_cases h : (decide (lo ≤ nthT l (i : Int)) && decide (nthT l (i : Int) ≤ hi)) = true
    · simp only [h, if_true]
      refine ⟨(lo, hi, l, (l.length : Int)), ?_⟩
      simp only [Bool.and_eq_true, decide_eq_true_eq] at h
      have h1 : ¬ nthT l (i : Int) < lo := by omega
      have h2 : ¬ nthT l (i : Int) > hi := by omega
      have h3 : IntKind.i64.wrap ((i : Int) + 1) = ((i + 1 : Nat) : Int) := by rw [IntKind.wrap_i64]; omega
      simp [st17_2, hi', h1, h2, h3]
    · simp only [h]
      simp only [Bool.and_eq_true, decide_eq_true_eq] at h
      have h1 : nthT l (i : Int) < lo ∨ nthT l (i : Int) > hi := by omega
      have h2 : (decide (nthT l (i : Int) < lo) || decide (nthT l (i : Int) > hi)) = true := by simpa using h1
      simp only [st17_2]
      have h3 : decide ((i : Int) < (l.length : Int)) = true := by simp; omega
      rw [h3, h2]; rfl
  · simp [st17_2]
  · simp [mu17_2]
theorem within_one (lo hi n : Int) : F17 (lo, hi, [n]) = (decide (lo ≤ n) && decide (n ≤ hi)) := by
  rw [within_eq _ _ _ (by simp [maxLen])]; simp
end Go.Proofs.Ytghlpolodjlgjaa.Sp
