/- Which floors and directions are hall calls (own work; out of BuF and BuG). -/
import Derived.Test.YtabifaikklcghaaBuI
import Derived.Test.YtabifaikklcghaaY1
namespace Go.Proofs.Ytabifaikklcghaa.Sp
open Go Sy
set_option linter.unusedVariables false
set_option linter.unusedSimpArgs false
instance (b : BldT) : Decidable (IsB b) := decidable_of_iff (vld b = 0) (vld_zero b)
theorem valid_cond (b : BldT) (hl : b.cars.length ≤ maxLen) : (F37 b != 0) = decide (¬ IsB b) := by
  rw [valid_eq b hl]
  by_cases h : IsB b
  · rw [(vld_zero b).2 h]; simp [h]
  · have : vld b ≠ 0 := fun h2 => h ((vld_zero b).1 h2)
    simp [h, this]
theorem rvalid_cond (b : BldT) (hl : b.cars.length ≤ maxLen) : (F40 b != 0) = decide (¬ IsB b) := by
  rw [rvalid_eq b hl, ← valid_eq b hl]; exact valid_cond b hl
def callOk (fl f d : Int) : Bool := ((d == 1) && (decide (0 ≤ f) && decide (f ≤ fl - 2))) || ((d == 2) && (decide (1 ≤ f) && decide (f ≤ fl - 1)))
theorem iscall_eq (b : BldT) (f d : Int) (hl : b.cars.length ≤ maxLen) : F38 (b, f, d) = (decide (IsB b) && callOk b.1 f d) := by
  unfold F38
  have h0 : (F37 b == 0) = decide (IsB b) := by
    have := valid_cond b hl
    cases h : (F37 b == 0) <;> simp [bne, h] at this <;> simp [this]
  simp only [h0]
  by_cases hB : IsB b
  · have h1 := hB.fl
    simp only [hB, decide_true, Bool.true_and]
    unfold F51 callOk
    simp only [within_one]
    rw [wrap_i64_of (x := b.1 - 2) (by omega) (by omega), wrap_i64_of (x := b.1 - 1) (by omega) (by omega)]
  · simp [hB]
theorem riscall_eq (b : BldT) (f d : Int) (hl : b.cars.length ≤ maxLen) : F41 (b, f, d) = (decide (IsB b) && callOk b.1 f d) := by
  unfold F41
  simp only [rvalid_cond b hl]
  by_cases hB : IsB b
  · have h1 := hB.fl
    simp only [hB, decide_true, not_true, decide_false, Bool.true_and, cond_false]
    unfold callOk
    simp only [in_eq]
    rw [wrap_i64_of (x := b.1 - 2) (by omega) (by omega), wrap_i64_of (x := b.1 - 1) (by omega) (by omega)]
  · simp [hB]
end Go.Proofs.Ytabifaikklcghaa.Sp
