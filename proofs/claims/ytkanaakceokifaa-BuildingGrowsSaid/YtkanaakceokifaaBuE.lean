/- Buildings whose times can be multiplied (own work). -/
import Derived.Test.YtkanaakceokifaaB0
import Derived.Test.YtkanaakceokifaaBuD
namespace Go.Proofs.Ytkanaakceokifaa.Sp
open Go Sy
set_option linter.unusedVariables false
set_option linter.unusedSimpArgs false
theorem small_len {b : BldT} (h : F15 b = true) : b.cars.length ≤ 20 := by
  unfold F15 at h
  cases hR : R15_2 b 0 with
  | none => rw [hR, optR_none] at h; simp only [decide_eq_true_eq] at h; show b.2.2.2.2.2.2.2.length ≤ 20; omega
  | some r =>
    rw [hR, optR_some] at h
    have := loop_spec (step := st15_2) (k := b) (fun x => 0 ≤ x) (mu15_2 b) (fun o _ => o = none ∨ o = some false) (fun x hx => ?_) _ (0 : Int) (by omega) (Nat.lt_succ_self _)
    · have h2 : R15_2 b 0 = none ∨ R15_2 b 0 = some false := this
      rw [hR, h] at h2; simp at h2
    · unfold st15_2
      by_cases h1 : ((decide (x < ((b.2.2.2.2.2.2.2).length : Int))) && (decide (x < (20 : Int)))) = true
      · rw [h1]; simp only [cond_true]
        simp only [Bool.and_eq_true, decide_eq_true_eq] at h1
        cases ((((decide ((nthT b.2.2.2.2.2.2.2 x).2.2.2.2.2.1 < (-1000000 : Int))) || (decide ((nthT b.2.2.2.2.2.2.2 x).2.2.2.2.2.1 > (1000000 : Int)))) || (decide ((nthT b.2.2.2.2.2.2.2 x).2.2.2.2.2.2.2.1 < (-1000000 : Int)))) || (decide ((nthT b.2.2.2.2.2.2.2 x).2.2.2.2.2.2.2.1 > (1000000 : Int)))) with
        | true => exact Or.inr rfl
        | false =>
          simp only [cond_false, mu15_2]
          rw [wrap_i64_of (by omega) (by omega)]
          omega
      · rw [Bool.not_eq_true] at h1; rw [h1]; exact Or.inl rfl
end Go.Proofs.Ytkanaakceokifaa.Sp
