/- The buildings of the laws (own work). -/
import Derived.Test.YtabifaikklcghaaT2
import Derived.Test.YtabifaikklcghaaBuD
namespace Go.Proofs.Ytabifaikklcghaa.Sp
open Go Sy
set_option linter.unusedVariables false
set_option linter.unusedSimpArgs false
theorem build_eq {x : Int} (h : 0 ≤ x ∧ x ≤ 255) : F13 x = sampleB (2 + x % 31) (1 + x / 31 % 8).toNat := by
  unfold F13
  rw [← sample_eq _ _ (by omega) (by omega)]
  congr 1
  have h1 : IntKind.i64.wrap ((2 : Int) + (IntKind.i64.wrap (Int.tmod x (31 : Int)))) = 2 + x % 31 := by simp only [tmod_ite, IntKind.wrap_i64]; omega
  have h2 : IntKind.i64.wrap ((1 : Int) + (IntKind.i64.wrap (Int.tmod (IntKind.u8.wrap (Int.tdiv x (31 : Int))) (8 : Int)))) = ((1 + x / 31 % 8).toNat : Int) := by simp only [tmod_ite, tdiv_ite, IntKind.wrap_i64, IntKind.wrap_u8]; omega
  rw [h1, h2]
theorem build_isB {x : Int} (h : 0 ≤ x ∧ x ≤ 255) : IsB (F13 x) := by
  rw [build_eq h]; exact sample_isB _ _ (by omega) (by omega)
theorem IsB.home {b : BldT} (hb : IsB b) {i : Int} (h0 : 0 ≤ i) (h1 : i < b.2.2.2.2.2.2.2.length) : 0 ≤ (nthT b.2.2.2.2.2.2.2 i).2.2.2.2.2.2.2.2 ∧ (nthT b.2.2.2.2.2.2.2 i).2.2.2.2.2.2.2.2 ≤ b.1 - 1 := by
  have h2 : nthT b.2.2.2.2.2.2.2 i ∈ b.cars := by rw [nthT_of _ i h0 h1]; exact List.getElem_mem _
  have h3 := hb.car _ h2
  simp only [carOk, Bool.and_eq_true, decide_eq_true_eq] at h3
  exact h3.2
end Go.Proofs.Ytabifaikklcghaa.Sp
