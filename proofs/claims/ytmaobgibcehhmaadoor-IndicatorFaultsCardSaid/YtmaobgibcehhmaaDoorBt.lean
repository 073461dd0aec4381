/- Sets of bits: what the evaluator's words for & | &^ << >> say of single bits (own work). -/
import Derived.Test.YtmaobgibcehhmaaDoorSl
import Derived.Lib.Tables
import Derived.Lib.TrailingZeros
import Derived.Lib.BitFns
namespace Go.Proofs.YtmaobgibcehhmaaDoor.Sp
open Go Sy
set_option linter.unusedVariables false
set_option linter.unusedSimpArgs false

/-- A number of 32 bits. -/
def W (x : Int) : Prop := 0 ≤ x ∧ x < 4294967296
def bit (x : Int) (i : Nat) : Bool := x.toNat.testBit i
theorem W.ext {x y : Int} (hx : W x) (hy : W y) (h : ∀ i, i < 32 → bit x i = bit y i) : x = y := by
  have hn : x.toNat = y.toNat := by
    apply Nat.eq_of_testBit_eq
    intro i
    by_cases hi : i < 32
    · exact h i hi
    · rw [Nat.testBit_lt_two_pow (x := x.toNat) (Nat.lt_of_lt_of_le (show x.toNat < 2 ^ 32 by have := hx.2; omega) (Nat.pow_le_pow_right (by omega) (by omega))),
        Nat.testBit_lt_two_pow (x := y.toNat) (Nat.lt_of_lt_of_le (show y.toNat < 2 ^ 32 by have := hy.2; omega) (Nat.pow_le_pow_right (by omega) (by omega)))]
  have := hx.1; have := hy.1; omega
theorem bit_hi {x : Int} (hx : W x) {i : Nat} (hi : 32 ≤ i) : bit x i = false :=
  Nat.testBit_lt_two_pow (Nat.lt_of_lt_of_le (show x.toNat < 2 ^ 32 by have := hx.2; omega) (Nat.pow_le_pow_right (by omega) hi))
theorem W.zero : W 0 := by unfold W; omega
theorem bit_zero (i : Nat) : bit 0 i = false := by simp [bit]
theorem wrap32 (v : BitVec 32) : IntKind.u32.wrap (v.toNat : Int) = (v.toNat : Int) := by have := v.isLt; rw [IntKind.wrap_u32]; omega
theorem W_bv (v : BitVec 32) : W (v.toNat : Int) := by have := v.isLt; unfold W; omega
theorem bit_bv (v : BitVec 32) (i : Nat) : bit (v.toNat : Int) i = v.getLsbD i := by simp [bit, BitVec.testBit_toNat]
theorem bv_bit {x : Int} (hx : 0 ≤ x) (i : Nat) (hi : i < 32) : (BitVec.ofInt 32 x).getLsbD i = bit x i := by
  obtain ⟨n, rfl⟩ := Int.eq_ofNat_of_zero_le hx
  rw [BitVec.ofInt_natCast, BitVec.getLsbD_ofNat]
  simp [hi, bit]
section
variable {x y : Int}
abbrev and32 (x y : Int) : Int := IntKind.u32.wrap ((BitVec.ofInt IntKind.u32.bits x &&& BitVec.ofInt IntKind.u32.bits y).toNat : Int)
abbrev or32 (x y : Int) : Int := IntKind.u32.wrap ((BitVec.ofInt IntKind.u32.bits x ||| BitVec.ofInt IntKind.u32.bits y).toNat : Int)
abbrev nand32 (x y : Int) : Int := IntKind.u32.wrap ((BitVec.ofInt IntKind.u32.bits x &&& ~~~ BitVec.ofInt IntKind.u32.bits y).toNat : Int)
abbrev shl32 (x k : Int) : Int := IntKind.u32.wrap (x * 2 ^ (min k.toNat IntKind.u32.bits))
abbrev shr32 (x k : Int) : Int := Int.fdiv x (2 ^ (min k.toNat IntKind.u32.bits))
theorem W_and (x y : Int) : W (and32 x y) := by show W (IntKind.u32.wrap ((BitVec.ofInt 32 x &&& BitVec.ofInt 32 y).toNat : Int)); rw [wrap32]; exact W_bv _
theorem W_or (x y : Int) : W (or32 x y) := by show W (IntKind.u32.wrap ((BitVec.ofInt 32 x ||| BitVec.ofInt 32 y).toNat : Int)); rw [wrap32]; exact W_bv _
theorem W_nand (x y : Int) : W (nand32 x y) := by show W (IntKind.u32.wrap ((BitVec.ofInt 32 x &&& ~~~ BitVec.ofInt 32 y).toNat : Int)); rw [wrap32]; exact W_bv _
theorem W_wrap (x : Int) : W (IntKind.u32.wrap x) := by unfold W; rw [IntKind.wrap_u32]; omega
theorem nth3 (a b c : Nat) (i : Int) (h0 : 0 ≤ i) (h2 : i ≤ 2) : ∃ g, nthT [some a, some b, some c] i = some g ∧ g ∈ [a, b, c] := by
  have : i = 0 ∨ i = 1 ∨ i = 2 := by omega
  rcases this with rfl | rfl | rfl
  · exact ⟨a, rfl, by simp⟩
  · exact ⟨b, rfl, by simp⟩
  · exact ⟨c, rfl, by simp⟩
theorem W.lo {x : Int} (h : W x) : 0 ≤ x := h.1
theorem W.hi {x : Int} (h : W x) : x ≤ 4294967295 := by have := h.2; omega
theorem W_shl (x k : Int) : W (shl32 x k) := W_wrap _
theorem bit_and (hx : 0 ≤ x) (hy : 0 ≤ y) (i : Nat) (hi : i < 32) : bit (and32 x y) i = (bit x i && bit y i) := by
  show bit (IntKind.u32.wrap ((BitVec.ofInt 32 x &&& BitVec.ofInt 32 y).toNat : Int)) i = _
  rw [wrap32, bit_bv, BitVec.getLsbD_and, bv_bit hx i hi, bv_bit hy i hi]
theorem bit_or (hx : 0 ≤ x) (hy : 0 ≤ y) (i : Nat) (hi : i < 32) : bit (or32 x y) i = (bit x i || bit y i) := by
  show bit (IntKind.u32.wrap ((BitVec.ofInt 32 x ||| BitVec.ofInt 32 y).toNat : Int)) i = _
  rw [wrap32, bit_bv, BitVec.getLsbD_or, bv_bit hx i hi, bv_bit hy i hi]
theorem bit_nand (hx : 0 ≤ x) (hy : 0 ≤ y) (i : Nat) (hi : i < 32) : bit (nand32 x y) i = (bit x i && !bit y i) := by
  show bit (IntKind.u32.wrap ((BitVec.ofInt 32 x &&& ~~~ BitVec.ofInt 32 y).toNat : Int)) i = _
  rw [wrap32, bit_bv, BitVec.getLsbD_and, BitVec.getLsbD_not, bv_bit hx i hi, bv_bit hy i hi]
  simp [hi]
theorem shl_nat (x k : Nat) : shl32 (x : Int) (k : Int) = ((x * 2 ^ min k 32 % 4294967296 : Nat) : Int) := by
  show IntKind.u32.wrap ((x : Int) * 2 ^ (min (k : Int).toNat 32)) = _
  rw [IntKind.wrap_u32, Int.toNat_natCast]
  have h : (x : Int) * 2 ^ min k 32 = ((x * 2 ^ min k 32 : Nat) : Int) := by rw [Int.natCast_mul, Int.natCast_pow]; rfl
  rw [h]
  generalize x * 2 ^ min k 32 = q
  omega
theorem shr_nat (x k : Nat) : shr32 (x : Int) (k : Int) = ((x / 2 ^ min k 32 : Nat) : Int) := by
  show Int.fdiv (x : Int) (2 ^ (min (k : Int).toNat 32)) = _
  rw [Int.toNat_natCast, Int.fdiv_eq_ediv_of_nonneg _ (by exact Int.le_of_lt (Int.pow_pos (by omega)))]
  norm_cast
theorem W_shr (hx : W x) (k : Int) (hk : 0 ≤ k) : W (shr32 x k) := by
  obtain ⟨n, rfl⟩ := Int.eq_ofNat_of_zero_le hx.1
  obtain ⟨j, rfl⟩ := Int.eq_ofNat_of_zero_le hk
  rw [shr_nat]
  have h2 := hx.2
  have h3 := Nat.div_le_self n (2 ^ min j 32)
  generalize n / 2 ^ min j 32 = q at *
  unfold W; omega
theorem bit_shl (hx : 0 ≤ x) (k : Nat) (i : Nat) (hi : i < 32) : bit (shl32 x (k : Int)) i = (decide (k ≤ i) && bit x (i - k)) := by
  obtain ⟨n, rfl⟩ := Int.eq_ofNat_of_zero_le hx
  rw [shl_nat]
  simp only [bit, Int.toNat_natCast]
  rw [show (4294967296 : Nat) = 2 ^ 32 from rfl, Nat.testBit_mod_two_pow, Nat.testBit_mul_two_pow]
  by_cases hk : k ≤ 32
  · rw [Nat.min_eq_left hk]
    by_cases h2 : k ≤ i <;> simp [hi, h2]
  · rw [Nat.min_eq_right (by omega)]
    have h1 : ¬ 32 ≤ i := by omega
    have h2 : ¬ k ≤ i := by omega
    simp [h1, h2, hi]
theorem bit_shr (hx : W x) (k : Nat) (i : Nat) : bit (shr32 x (k : Int)) i = bit x (k + i) := by
  obtain ⟨n, rfl⟩ := Int.eq_ofNat_of_zero_le hx.1
  by_cases hk : k ≤ 32
  · rw [shr_nat, Nat.min_eq_left hk]
    simp only [bit, Int.toNat_natCast]
    rw [Nat.testBit_div_two_pow, Nat.add_comm]
  · rw [bit_hi hx (by omega), shr_nat, Nat.min_eq_right (by omega)]
    simp only [bit, Int.toNat_natCast]
    rw [Nat.testBit_div_two_pow]
    exact bit_hi hx (by omega)
theorem bit_one (k i : Nat) (hi : i < 32) : bit (shl32 1 (k : Int)) i = decide (i = k) := by
  rw [bit_shl (by omega) k i hi]
  have h1 : bit 1 (i - k) = decide (i - k = 0) := by
    simp only [bit]
    show Nat.testBit 1 (i - k) = _
    by_cases h0 : i - k = 0
    · rw [h0]; rfl
    · have : Nat.testBit 1 (i - k) = false := by
        cases h : Nat.testBit 1 (i - k) with
        | false => rfl
        | true => exact absurd (Nat.testBit_one_eq_true_iff_self_eq_zero.1 h) h0
      rw [this]; simpa using h0
  rw [h1]
  by_cases h : i = k <;> by_cases h2 : k ≤ i <;> simp_all <;> omega
/-- Is the set's bit set? as the program asks. -/
theorem ask_bit (hx : W x) (k : Nat) : (and32 (shr32 x (k : Int)) 1 == 1) = bit x k := by
  have h0 : W (shr32 x (k : Int)) := W_shr hx _ (by omega)
  have h1 : and32 (shr32 x (k : Int)) 1 = if bit x k then 1 else 0 := by
    refine W.ext (W_and _ _) (by split <;> unfold W <;> omega) fun i hi => ?_
    rw [bit_and h0.1 (by omega) i hi, bit_shr hx]
    by_cases hi0 : i = 0
    · subst hi0
      have : bit 1 0 = true := rfl
      rw [Nat.add_zero, this, Bool.and_true]
      cases bit x k <;> rfl
    · have : bit 1 i = false := by
        have := bit_one 0 i hi
        rw [show shl32 1 ((0 : Nat) : Int) = 1 from rfl] at this
        rw [this]; simpa using hi0
      rw [this, Bool.and_false]
      cases bit x k
      · simp [bit_zero]
      · simp [this]
  rw [h1]
  cases bit x k <;> rfl
end

theorem pop_size : Lib.pop8tab.size = 256 := Lib.pop8tab_size
theorem len_size : Lib.len8tab.size = 256 := Lib.len8tab_size
theorem and_nat (x y : Nat) (hx : x < 4294967296) (hy : y < 4294967296) : and32 (x : Int) (y : Int) = ((x &&& y : Nat) : Int) := by
  have h : x &&& y < 4294967296 := Nat.lt_of_le_of_lt Nat.and_le_left hx
  refine W.ext (W_and _ _) (by unfold W; omega) fun i hi => ?_
  rw [bit_and (by omega) (by omega) i hi]
  simp [bit]
theorem and_255 (a : Int) (h0 : 0 ≤ a) (h1 : a < 4294967296) : and32 a 255 = a % 256 := by
  obtain ⟨n, rfl⟩ := Int.eq_ofNat_of_zero_le h0
  rw [show (255 : Int) = ((255 : Nat) : Int) from rfl, and_nat n 255 (by omega) (by omega), Nat.and_two_pow_sub_one_eq_mod n 8]
  omega
theorem a255 (a : Int) (h0 : 0 ≤ a) (h1 : a < 4294967296) : IntKind.u32.wrap ((BitVec.ofInt IntKind.u32.bits a &&& BitVec.ofInt IntKind.u32.bits (255 : Int)).toNat : Int) = a % 256 := and_255 a h0 h1
theorem d24 (x : Int) : Int.fdiv x (2 ^ (min ((24 : Int)).toNat IntKind.u32.bits)) = x / 16777216 := Int.fdiv_eq_ediv_of_nonneg _ (by decide)
theorem d16 (x : Int) : Int.fdiv x (2 ^ (min ((16 : Int)).toNat IntKind.u32.bits)) = x / 65536 := Int.fdiv_eq_ediv_of_nonneg _ (by decide)
theorem d8 (x : Int) : Int.fdiv x (2 ^ (min ((8 : Int)).toNat IntKind.u32.bits)) = x / 256 := Int.fdiv_eq_ediv_of_nonneg _ (by decide)
theorem d27 (x : Int) : Int.fdiv x (2 ^ (min ((27 : Int)).toNat IntKind.u32.bits)) = x / 134217728 := Int.fdiv_eq_ediv_of_nonneg _ (by decide)
end Go.Proofs.YtmaobgibcehhmaaDoor.Sp
