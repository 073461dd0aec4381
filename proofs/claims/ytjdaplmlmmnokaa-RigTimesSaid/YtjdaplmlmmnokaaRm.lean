/- The laws of the drive: times (own work). -/
import Derived.Test.YtjdaplmlmmnokaaRl
namespace Go.Proofs.Ytjdaplmlmmnokaa.Sp
open Go Sy
set_option linter.unusedVariables false
set_option linter.unusedSimpArgs false
/-- The state behind j ticks of a command. -/
def goes (cmd f k j : Int) : RigT := if cmd = 3 then op f k j else mv f (if cmd = 1 then f + 1 else f - 1) k j
theorem goes_step {fl f k j cmd : Int} (h : 2 ≤ fl ∧ fl ≤ 32) (hf : 0 ≤ f ∧ f ≤ fl - 1) (hc : cmd = 1 ∧ f < fl - 1 ∨ cmd = 2 ∧ 0 < f ∨ cmd = 3) (hk : 1 ≤ k ∧ k ≤ 10000) (hj : 0 ≤ j ∧ j < k) :
    stp fl (goes cmd f k j) cmd k = goes cmd f k (j + 1) := by
  unfold goes
  by_cases h3 : cmd = 3
  · rw [if_pos h3, if_pos h3, h3]; exact op_step h hf hk hj
  · rw [if_neg h3, if_neg h3]
    by_cases h1 : cmd = 1
    · rw [if_pos h1]; exact mv_step h hf (by omega) (by omega) hk hj
    · rw [if_neg h1]; exact mv_step h hf (by omega) (by omega) hk hj
theorem goes_zero {cmd f k : Int} : goes cmd f k 0 = (f, f, 0, 2, 0, 0) := by
  unfold goes op mv; split <;> simp
theorem goes_over {cmd f k j : Int} (hc : cmd = 1 ∨ cmd = 2 ∨ cmd = 3) (hj : 1 ≤ j ∧ j ≤ k) :
    ((((goes cmd f k j).2.2.1 == (0 : Int)) && ((goes cmd f k j).2.2.2.1 != (0 : Int))) && (!((goes cmd f k j).1 == f && ((goes cmd f k j).2.1 == f && ((goes cmd f k j).2.2.1 == (0 : Int) && ((goes cmd f k j).2.2.2.1 == (2 : Int) && ((goes cmd f k j).2.2.2.2.1 == (0 : Int) && (goes cmd f k j).2.2.2.2.2 == (0 : Int)))))))) = (j == k) := by
  by_cases hjk : j = k
  · have e : (j == k) = true := by simpa using hjk
    rw [e]
    unfold goes op mv
    rcases hc with rfl | rfl | rfl
    · rw [if_neg (by omega), if_neg (by omega), if_neg (by omega), if_pos rfl]
      have : ((f + 1 : Int) == f) = false := by simp; omega
      simp [this]
    · rw [if_neg (by omega), if_neg (by omega), if_neg (by omega), if_neg (by omega)]
      have : ((f - 1 : Int) == f) = false := by simp; omega
      simp [this]
    · rw [if_pos rfl, if_neg (by omega), if_neg (by omega)]; simp
  · have e : (j == k) = false := by simpa using hjk
    rw [e]
    have e2 : ((k - j : Int) == 0) = false := by simp; omega
    unfold goes op mv
    rcases hc with rfl | rfl | rfl
    · rw [if_neg (by omega), if_neg (by omega), if_pos (by omega)]; simp [e2]
    · rw [if_neg (by omega), if_neg (by omega), if_pos (by omega)]; simp [e2]
    · rw [if_pos rfl, if_neg (by omega), if_pos (by omega)]; simp
theorem law_times (x : Int × (Int × Int) × Int) (h : InR ct4.p x) : F4 x = true := by
  simp only [ct4, InR, Lit.wf, Bool.and_eq_true, decide_eq_true_eq] at h
  obtain ⟨x1, ⟨x2, x3⟩, x4⟩ := x
  have hx1 : 0 ≤ x1 ∧ x1 ≤ 255 := h.1
  have hx2 : 0 ≤ x2 ∧ x2 ≤ 255 := h.2.1.1
  have hx3 : 0 ≤ x3 ∧ x3 ≤ 255 := h.2.1.2
  have hx4 : 0 ≤ x4 ∧ x4 ≤ 255 := h.2.2
  unfold F4
  simp only [K4_1, K4_2]
  obtain ⟨n, hN⟩ : ∃ n, IntKind.i64.wrap ((2 : Int) + (IntKind.i64.wrap (Int.tmod x1 (31 : Int)))) = n := ⟨_, rfl⟩
  have hn : 2 ≤ n ∧ n ≤ 32 := by rw [← hN]; exact floors_u8 hx1
  simp only [hN]
  obtain ⟨f, hF⟩ : ∃ f, Int.tmod (IntKind.i64.wrap x2) n = f := ⟨_, rfl⟩
  have hf : 0 ≤ f ∧ f ≤ n - 1 := by
    rw [← hF, wrap_i64_of (by omega) (by omega), Int.tmod_eq_emod_of_nonneg hx2.1]
    have h1 := Int.emod_nonneg x2 (b := n) (by omega)
    have h2 := Int.emod_lt_of_pos x2 (b := n) (by omega)
    omega
  obtain ⟨k, hK⟩ : ∃ k, IntKind.i64.wrap ((1 : Int) + (IntKind.i64.wrap x4)) = k := ⟨_, rfl⟩
  have hk : 1 ≤ k ∧ k ≤ 256 := by rw [← hK]; simp only [IntKind.wrap_i64]; omega
  obtain ⟨cmd, hC⟩ : ∃ cmd, nthT [(1 : Int), (2 : Int), (3 : Int)] (Int.tmod x3 (3 : Int)) = cmd := ⟨_, rfl⟩
  have hc : cmd = 1 ∨ cmd = 2 ∨ cmd = 3 := by
    rw [← hC]
    have h2 : Int.tmod x3 3 = 0 ∨ Int.tmod x3 3 = 1 ∨ Int.tmod x3 3 = 2 := by rw [tmod_ite]; omega
    rcases h2 with h2 | h2 | h2 <;> rw [h2]
    · exact Or.inl rfl
    · exact Or.inr (Or.inl rfl)
    · exact Or.inr (Or.inr rfl)
  simp only [hF, hK, hC, new_eq, step_eq]
  rw [wrap_i64_of (x := n - 1) (by omega) (by omega), wrap_i64_of (x := f + 1) (by omega) (by omega), wrap_i64_of (x := f - 1) (by omega) (by omega)]
  by_cases hb : cmd = 1 ∧ f = n - 1 ∨ cmd = 2 ∧ f = 0
  · have e : (((cmd == (1 : Int)) && (f == n - 1)) || ((cmd == (2 : Int)) && (f == (0 : Int)))) = true := by
      simp only [Bool.or_eq_true, Bool.and_eq_true, beq_iff_eq]; exact hb
    rw [e]
    have hs : stp n (f, f, 0, 2, 0, 0) cmd k = (f, f, 0, 2, 0, 0) := by
      have h1 := new_isSt hn hf
      simp only [stp, h1, nextOf, aimOf, doorOf, and_true, true_and, or_true, true_or, or_false, false_or, not_true_eq_false, and_false, false_and, not_false_eq_true, ne_eq, if_true, if_false, Bool.false_eq_true, Int.reduceEq, Int.reduceNeg, Int.reduceLE, Int.reduceLT]
      have h3 : ¬ cmd = 3 := by omega
      have h4 : ¬ (cmd = 4 ∨ cmd = 5) := by omega
      rw [if_neg]
      · simp [h3, h4]
      · (repeat' split) <;> omega
    simp only [hs, cond_true, beq_self_eq_true, Bool.and_self, sane_true]
  · have e : (((cmd == (1 : Int)) && (f == n - 1)) || ((cmd == (2 : Int)) && (f == (0 : Int)))) = false := by
      rw [Bool.eq_false_iff]; simp only [ne_eq, Bool.or_eq_true, Bool.and_eq_true, beq_iff_eq]; exact hb
    rw [e]
    simp only [cond_false]
    have key := loop_spec (k := (n, cmd, k, f, f, 0, 2, 0, 0)) (step := st4_8) (fun x => 1 ≤ x.1 ∧ x.1 ≤ k + 1 ∧ x.2 = goes cmd f k (x.1 - 1)) (mu4_8 (n, cmd, k, f, f, 0, 2, 0, 0)) (fun o y => o = none ∧ y.2 = goes cmd f k k) (fun x hx => ?_) _ (1, f, f, 0, 2, 0, 0) ⟨by show (1 : Int) ≤ 1; omega, by show (1 : Int) ≤ k + 1; omega, goes_zero.symm⟩ (Nat.lt_succ_self _)
    · have hR : R4_8 (n, cmd, k, f, f, 0, 2, 0, 0) (1, f, f, 0, 2, 0, 0) = none := key.1
      have hG : (G4_8 (n, cmd, k, f, f, 0, 2, 0, 0) (1, f, f, 0, 2, 0, 0)).2 = goes cmd f k k := key.2
      rw [hR, optR_none, hG]
      unfold goes op mv
      rcases hc with rfl | rfl | rfl
      · rw [if_neg (by omega), if_neg (by omega), if_neg (by omega), if_pos rfl]; simp [sane_true]
      · rw [if_neg (by omega), if_neg (by omega), if_neg (by omega), if_neg (by omega)]; simp [sane_true]
      · rw [if_pos rfl, if_neg (by omega), if_neg (by omega)]; simp [sane_true]
    · obtain ⟨i, s⟩ := x
      have hi : 1 ≤ i ∧ i ≤ k + 1 := ⟨hx.1, hx.2.1⟩
      have hs : s = goes cmd f k (i - 1) := hx.2.2
      subst hs
      simp only [st4_8, step_eq, mu4_8, F12]
      by_cases hc2 : i ≤ k
      · have hnext := goes_step (fl := n) (f := f) (k := k) (j := i - 1) (cmd := cmd) hn hf (by omega) (by omega) (by omega)
        rw [show i - 1 + 1 = i by omega] at hnext
        simp only [hc2, decide_true, cond_true, hnext, goes_over hc ⟨hi.1, hc2⟩, bne_self_eq_false, cond_false]
        rw [wrap_i64_of (by omega) (by omega)]
        refine ⟨⟨by omega, by omega, ?_⟩, by omega⟩
        rw [show i + 1 - 1 = i by omega]
      · simp only [hc2, decide_false, cond_false]
        refine ⟨trivial, ?_⟩
        rw [show i - 1 = k by omega]
end Go.Proofs.Ytjdaplmlmmnokaa.Sp
