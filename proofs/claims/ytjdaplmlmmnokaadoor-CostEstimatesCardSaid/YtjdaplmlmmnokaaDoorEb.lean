/- The law's building with small times (own work). -/
import Derived.Test.YtjdaplmlmmnokaaDoorE0
namespace Go.Proofs.YtjdaplmlmmnokaaDoor.Sp
open Go Sy
set_option linter.unusedVariables false
set_option linter.unusedSimpArgs false
set_option maxRecDepth 10000
theorem bld15 {x : Int × Int} (h : 0 ≤ x.1 ∧ x.1 ≤ 255) : (2 ≤ (F12 x).1 ∧ (F12 x).1 ≤ 6) ∧ (F12 x).2.2.2.2.2.2.2.length ≤ 100 := by
  have h1 : IntKind.i64.wrap ((2 : Int) + (IntKind.i64.wrap (Int.tmod x.1 (5 : Int)))) = 2 + x.1 % 5 := by simp only [tmod_ite, IntKind.wrap_i64]; omega
  have h2 : IntKind.i64.wrap ((1 : Int) + (IntKind.i64.wrap (Int.tmod (IntKind.u8.wrap (Int.tdiv x.1 (5 : Int))) (3 : Int)))) = ((1 + x.1 / 5 % 3).toNat : Int) := by simp only [tmod_ite, tdiv_ite, IntKind.wrap_i64, IntKind.wrap_u8]; omega
  have key : ∀ b : BldT, (2 ≤ b.1 ∧ b.1 ≤ 6) → b.cars.length ≤ 100 → (2 ≤ (G12_3 x.2 (0, b)).2.1 ∧ (G12_3 x.2 (0, b)).2.1 ≤ 6) ∧ (G12_3 x.2 (0, b)).2.2.2.2.2.2.2.2.length ≤ 100 := by
    intro b hb hl
    refine loop_spec (ρ := BldT) (step := st12_3) (k := x.2) (fun y => 0 ≤ y.1 ∧ (2 ≤ y.2.1 ∧ y.2.1 ≤ 6) ∧ y.2.2.2.2.2.2.2.2.length ≤ 100) (fun y => ((y.2.2.2.2.2.2.2.2.length : Int) - y.1).toNat) (fun _ y => (2 ≤ y.2.1 ∧ y.2.1 ≤ 6) ∧ y.2.2.2.2.2.2.2.2.length ≤ 100) ?_ _ _ ⟨by simp, hb, hl⟩ (Nat.lt_succ_self _)
    intro y hy
    unfold st12_3
    have hlen : (K12_3_5 x.2 y).length = y.2.2.2.2.2.2.2.2.length := by
      simp only [K12_3_5, K12_3_4, K12_3_3, K12_3_2, K12_3_1, setE, List.length_set]
    cases hc : decide (y.1 < (y.2.2.2.2.2.2.2.2.length : Int)) with
    | true =>
      rw [cond_true]
      rw [decide_eq_true_eq] at hc
      simp only
      rw [wrap_i64_of (x := y.1 + 1) (by omega) (by omega), hlen]
      exact ⟨⟨by omega, hy.2.1, hy.2.2⟩, by omega⟩
    | false =>
      rw [cond_false]
      exact hy.2
  unfold F12
  rw [h1, h2, sample_eq _ _ (by omega) (by omega)]
  exact key _ (by show (2 : Int) ≤ 2 + x.1 % 5 ∧ 2 + x.1 % 5 ≤ 6; omega) (by rw [sample_len]; omega)
end Go.Proofs.YtjdaplmlmmnokaaDoor.Sp
