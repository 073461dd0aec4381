/- What OnesCount32 comes to (own work). -/
import Derived.Test.YtmaobgibcehhmaaDoorBv
namespace Go.Proofs.YtmaobgibcehhmaaDoor.Sp
open Go Sy
set_option linter.unusedVariables false
set_option linter.unusedSimpArgs false

/-- How many bits. -/
def cnt (x : Int) : Nat := (List.range 32).countP (bit x)
theorem pop8_at : ∀ n, n < 256 → ((Lib.pop8tab.data.getD n 0).toNat) = (List.range 8).countP (fun i => n.testBit i) := by decide +kernel
theorem strAt_pop (n : Nat) (h : n < 256) : strAt Lib.pop8tab (n : Int) = (((List.range 8).countP (fun i => n.testBit i) : Nat) : Int) := by
  unfold strAt
  rw [Int.toNat_natCast, pop8_at n h]
theorem range32 : List.range 32 = List.range 8 ++ (List.range 8).map (8 + ·) ++ (List.range 8).map (16 + ·) ++ (List.range 8).map (24 + ·) := by decide
theorem byte_cnt (n k : Nat) : (List.range 8).countP (fun i => (n / 2 ^ k % 256).testBit i) = (List.range 8).countP ((fun i => n.testBit i) ∘ (k + ·)) := by
  apply List.countP_congr
  intro i hi
  have hi : i < 8 := List.mem_range.1 hi
  rw [show (256 : Nat) = 2 ^ 8 from rfl, Nat.testBit_mod_two_pow, Nat.testBit_div_two_pow]
  simp [hi, Nat.add_comm]
theorem pop_spec {x : Int} (hx : W x) : F12 x = (cnt x : Int) := by
  obtain ⟨n, rfl⟩ := Int.eq_ofNat_of_zero_le hx.1
  have hn : n < 4294967296 := by have := hx.2; omega
  unfold F12
  rw [d24, d16, d8, a255 _ (by omega) (by omega), a255 _ (by omega) (by omega), a255 _ (by omega) (by omega)]
  have e3 : ((n : Int) / 16777216) = ((n / 2 ^ 24 % 256 : Nat) : Int) := by omega
  have e2 : ((n : Int) / 65536 % 256) = ((n / 2 ^ 16 % 256 : Nat) : Int) := by omega
  have e1 : ((n : Int) / 256 % 256) = ((n / 2 ^ 8 % 256 : Nat) : Int) := by omega
  have e0 : ((n : Int) % 256) = ((n / 2 ^ 0 % 256 : Nat) : Int) := by omega
  rw [e3, e2, e1, e0, strAt_pop _ (Nat.mod_lt _ (by omega)), strAt_pop _ (Nat.mod_lt _ (by omega)), strAt_pop _ (Nat.mod_lt _ (by omega)), strAt_pop _ (Nat.mod_lt _ (by omega)), byte_cnt, byte_cnt, byte_cnt, byte_cnt]
  have hs : cnt (n : Int) = (List.range 8).countP ((fun i => n.testBit i) ∘ (0 + ·)) + (List.range 8).countP ((fun i => n.testBit i) ∘ (8 + ·)) + (List.range 8).countP ((fun i => n.testBit i) ∘ (16 + ·)) + (List.range 8).countP ((fun i => n.testBit i) ∘ (24 + ·)) := by
    unfold cnt
    rw [range32, List.countP_append, List.countP_append, List.countP_append, List.countP_map, List.countP_map, List.countP_map]
    have : (List.range 8).countP (bit (n : Int)) = (List.range 8).countP ((fun i => n.testBit i) ∘ (0 + ·)) := by
      apply List.countP_congr; intro i _; simp [bit]
    rw [this]
    rfl
  rw [hs]
  have b := fun k => List.countP_le_length (p := (fun i => n.testBit i) ∘ (k + ·)) (l := List.range 8)
  have b0 := b 0; have b1 := b 8; have b2 := b 16; have b3 := b 24
  simp only [List.length_range] at b0 b1 b2 b3
  generalize (List.range 8).countP ((fun i => n.testBit i) ∘ (0 + ·)) = c0 at *
  generalize (List.range 8).countP ((fun i => n.testBit i) ∘ (8 + ·)) = c1 at *
  generalize (List.range 8).countP ((fun i => n.testBit i) ∘ (16 + ·)) = c2 at *
  generalize (List.range 8).countP ((fun i => n.testBit i) ∘ (24 + ·)) = c3 at *
  simp only [IntKind.wrap_u8, IntKind.wrap_i64]
  omega
theorem cnt_le (x : Int) : cnt x ≤ 32 := by
  have := List.countP_le_length (p := bit x) (l := List.range 32)
  simpa [cnt] using this
theorem cnt_one : ∀ k, k < 32 → (List.range 32).countP (fun i => decide (i = k)) = 1 := by decide
theorem cnt_pow (k : Nat) (hk : k < 32) : cnt (shl32 1 (k : Int)) = 1 := by
  unfold cnt
  rw [← cnt_one k hk]
  apply List.countP_congr
  intro i hi
  rw [bit_one k i (List.mem_range.1 hi)]
/-- A set of one bit is that bit. -/
theorem one_bit {x : Int} (hx : W x) (hc : cnt x = 1) : ∃ k : Nat, k < 32 ∧ x = shl32 1 (k : Int) ∧ F11 x = (k : Int) := by
  have hne : x ≠ 0 := by
    intro h0; subst h0
    have : cnt 0 = 0 := by decide
    omega
  obtain ⟨k, hk, h1, h2, h3⟩ := tz_spec hx hne
  refine ⟨k, hk, W.ext hx (W_shl _ _) fun i hi => ?_, h1⟩
  rw [bit_one k i hi]
  by_cases hik : i = k
  · subst hik; simp [h2]
  · simp only [hik, decide_false]
    cases hb : bit x i with
    | false => rfl
    | true =>
      exfalso
      have hle : (List.range 32).countP (fun j => decide (j = i) || decide (j = k)) ≤ cnt x := by
        apply List.countP_mono_left
        intro j _ hj
        simp only [Bool.or_eq_true, decide_eq_true_eq] at hj
        rcases hj with rfl | rfl
        · exact hb
        · exact h2
      have h4 : ∀ i, i < 32 → ∀ k, k < 32 → i ≠ k → (List.range 32).countP (fun j => decide (j = i) || decide (j = k)) = 2 := by decide +kernel
      rw [h4 i hi k hk hik] at hle
      omega
theorem tz_pow (k : Nat) (hk : k < 32) : F11 (shl32 1 (k : Int)) = (k : Int) := by
  obtain ⟨j, hj, h1, h2⟩ := one_bit (W_shl 1 k) (cnt_pow k hk)
  have : j = k := by
    have h3 : bit (shl32 1 (k : Int)) k = true := by rw [bit_one k k hk]; simp
    rw [h1, bit_one j k hk] at h3
    simpa using (of_decide_eq_true h3).symm
  rw [h2, this]
end Go.Proofs.YtmaobgibcehhmaaDoor.Sp
