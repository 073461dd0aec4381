/- What Len32 comes to (own work). -/
import Derived.Test.YtjdaplmlmmnokaaDoorM0
namespace Go.Proofs.YtjdaplmlmmnokaaDoor.Sp
open Go Sy
set_option linter.unusedVariables false
set_option linter.unusedSimpArgs false

theorem len8_at : ∀ n, n < 256 → (n = 0 → (Lib.len8tab.data.getD n 0).toNat = 0) ∧ (n ≠ 0 → 1 ≤ (Lib.len8tab.data.getD n 0).toNat ∧ (Lib.len8tab.data.getD n 0).toNat ≤ 8 ∧ 2 ^ ((Lib.len8tab.data.getD n 0).toNat - 1) ≤ n ∧ n < 2 ^ (Lib.len8tab.data.getD n 0).toNat) := by decide +kernel
theorem strAt_len (n : Nat) (h : n < 256) : ∃ m : Nat, strAt Lib.len8tab (n : Int) = (m : Int) ∧ (n = 0 → m = 0) ∧ (n ≠ 0 → 1 ≤ m ∧ m ≤ 8 ∧ 2 ^ (m - 1) ≤ n ∧ n < 2 ^ m) := by
  refine ⟨_, ?_, len8_at n h⟩
  unfold strAt
  rw [Int.toNat_natCast]
theorem len_zero : F20 0 = 0 := by kernel_rfl
/-- The highest bit. -/
theorem len_nat (n : Nat) (hn : n < 4294967296) (h0 : n ≠ 0) : ∃ k : Nat, k < 32 ∧ F20 (n : Int) = (k : Int) + 1 ∧ 2 ^ k ≤ n ∧ n < 2 ^ (k + 1) := by
  have hd1 : Int.fdiv (n : Int) (2 ^ (min ((16 : Int)).toNat IntKind.u32.bits)) = ((n / 65536 : Nat) : Int) := by rw [d16]; omega
  have hd2 : ∀ q : Nat, Int.fdiv (q : Int) (2 ^ (min ((8 : Int)).toNat IntKind.u32.bits)) = ((q / 256 : Nat) : Int) := fun q => by rw [d8]; omega
  have hb : ∀ q : Nat, q < 256 → IntKind.u8.wrap (q : Int) = (q : Int) := fun q h => wrap_u8_of (by omega) (by omega)
  have key : ∀ (q s : Nat), q ≠ 0 → q < 256 → n / 2 ^ s = q → s ≤ 24 → ∀ m : Nat, (q ≠ 0 → 1 ≤ m ∧ m ≤ 8 ∧ 2 ^ (m - 1) ≤ q ∧ q < 2 ^ m) → m - 1 + s < 32 ∧ ((s : Int) + (m : Int)) = ((m - 1 + s : Nat) : Int) + 1 ∧ 2 ^ (m - 1 + s) ≤ n ∧ n < 2 ^ (m - 1 + s + 1) := by
    intro q s hq hq2 hns hs m hm
    obtain ⟨h1, h2, h3, h4⟩ := hm hq
    refine ⟨by omega, by omega, ?_, ?_⟩
    · rw [Nat.pow_add]
      calc 2 ^ (m - 1) * 2 ^ s ≤ q * 2 ^ s := Nat.mul_le_mul_right _ h3
        _ ≤ n := by rw [← hns]; exact Nat.div_mul_le_self _ _
    · rw [show m - 1 + s + 1 = m + s by omega, Nat.pow_add]
      have : n / 2 ^ s < 2 ^ m := by rw [hns]; exact h4
      exact (Nat.div_lt_iff_lt_mul (Nat.two_pow_pos s)).1 this
  have hw : ∀ a b : Int, 0 ≤ a → a ≤ 100 → 0 ≤ b → b ≤ 100 → IntKind.i64.wrap (a + b) = a + b := fun a b _ _ _ _ => wrap_i64_of (by omega) (by omega)
  have hw1 : ∀ a : Int, 0 ≤ a → a ≤ 100 → IntKind.i64.wrap a = a := fun a _ _ => wrap_i64_of (by omega) (by omega)
  unfold F20
  by_cases c1 : n < 65536
  · have e1 : decide ((n : Int) ≥ 65536) = false := by simp; omega
    rw [e1, cond_false]
    by_cases c2 : n < 256
    · have e2 : decide ((n : Int) ≥ 256) = false := by simp; omega
      rw [e2, cond_false, hb n c2]
      obtain ⟨m, h1, _, h3⟩ := strAt_len n c2
      have hm := h3 h0
      obtain ⟨k1, k2, k3, k4⟩ := key n 0 h0 c2 (by simp) (by omega) m h3
      refine ⟨_, k1, ?_, k3, k4⟩
      rw [h1, ← k2]
      try rw [hw1 (m : Int) (by omega) (by omega)]
      rw [hw _ _ (by omega) (by omega) (by omega) (by omega)]
      omega
    · have e2 : decide ((n : Int) ≥ 256) = true := by simp; omega
      rw [e2, cond_true, hd2, hb _ (by omega)]
      obtain ⟨m, h1, _, h3⟩ := strAt_len (n / 256) (by omega)
      have hm := h3 (by omega)
      obtain ⟨k1, k2, k3, k4⟩ := key (n / 256) 8 (by omega) (by omega) rfl (by omega) m h3
      refine ⟨_, k1, ?_, k3, k4⟩
      rw [h1, ← k2]
      try rw [hw1 (m : Int) (by omega) (by omega)]
      rw [hw 0 8 (by omega) (by omega) (by omega) (by omega), hw _ _ (by omega) (by omega) (by omega) (by omega)]
      omega
  · have e1 : decide ((n : Int) ≥ 65536) = true := by simp; omega
    rw [e1, cond_true, hd1]
    by_cases c2 : n / 65536 < 256
    · have e2 : decide (((n / 65536 : Nat) : Int) ≥ 256) = false := by simp; omega
      rw [e2, cond_false, hb _ c2]
      obtain ⟨m, h1, _, h3⟩ := strAt_len (n / 65536) c2
      have hm := h3 (by omega)
      obtain ⟨k1, k2, k3, k4⟩ := key (n / 65536) 16 (by omega) (by omega) rfl (by omega) m h3
      refine ⟨_, k1, ?_, k3, k4⟩
      rw [h1, ← k2]
      try rw [hw1 (m : Int) (by omega) (by omega)]
      rw [hw _ _ (by omega) (by omega) (by omega) (by omega)]
      omega
    · have e2 : decide (((n / 65536 : Nat) : Int) ≥ 256) = true := by simp; omega
      rw [e2, cond_true, hd2, hb _ (by omega)]
      obtain ⟨m, h1, _, h3⟩ := strAt_len (n / 65536 / 256) (by omega)
      have hm := h3 (by omega)
      obtain ⟨k1, k2, k3, k4⟩ := key (n / 65536 / 256) 24 (by omega) (by omega) (by rw [Nat.div_div_eq_div_mul]) (by omega) m h3
      refine ⟨_, k1, ?_, k3, k4⟩
      rw [h1, ← k2]
      try rw [hw1 (m : Int) (by omega) (by omega)]
      rw [hw 16 8 (by omega) (by omega) (by omega) (by omega), hw _ _ (by omega) (by omega) (by omega) (by omega)]
      omega
theorem len_spec {x : Int} (hx : W x) (hne : x ≠ 0) : ∃ k : Nat, k < 32 ∧ F20 x = (k : Int) + 1 ∧ bit x k = true ∧ ∀ i, k < i → bit x i = false := by
  obtain ⟨n, rfl⟩ := Int.eq_ofNat_of_zero_le hx.1
  have hn : n < 4294967296 := by have := hx.2; omega
  obtain ⟨k, h1, h2, h3, h4⟩ := len_nat n hn (by omega)
  refine ⟨k, h1, h2, ?_, fun i hi => ?_⟩
  · simp only [bit, Int.toNat_natCast]
    rw [Nat.testBit_eq_decide_div_mod_eq]
    have : n / 2 ^ k = 1 := by
      apply Nat.div_eq_of_lt_le
      · omega
      · rw [Nat.pow_succ] at h4; omega
    rw [this]; rfl
  · simp only [bit, Int.toNat_natCast]
    exact Nat.testBit_lt_two_pow (Nat.lt_of_lt_of_le h4 (Nat.pow_le_pow_right (by omega) (by omega)))
end Go.Proofs.YtjdaplmlmmnokaaDoor.Sp
