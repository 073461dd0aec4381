/- What TrailingZeros32 comes to (own work). -/
import Derived.Test.YtmaobgibcehhmaaDoorM0
namespace Go.Proofs.YtmaobgibcehhmaaDoor.Sp
open Go Sy
set_option linter.unusedVariables false
set_option linter.unusedSimpArgs false

theorem tabB_map : tabB = Lib.deBruijn32tab.map (fun (n : Nat) => (n : Int)) := rfl
theorem tabB_at (j : Nat) : tabB.getD j 0 = ((Lib.deBruijn32tab.getD j 0 : Nat) : Int) := by
  rw [tabB_map]
  simp only [List.getD_eq_getElem?_getD, List.getElem?_map]
  cases Lib.deBruijn32tab[j]? <;> rfl
theorem tz_nat (n : Nat) (h0 : n ≠ 0) (hn : n < 4294967296) : F11 (n : Int) = ((Lib.ctz 32 n : Nat) : Int) ∧ Lib.ctz 32 n < 32 := by
  obtain ⟨hl, hc⟩ := Lib.lowest_bit 32 n h0 hn
  generalize Lib.ctz 32 n = c at hl hc ⊢
  refine ⟨?_, hc⟩
  obtain ⟨d1, d2⟩ := Lib.deBruijn32_at c hc
  have hw : IntKind.u32.wrap (0 - (n : Int)) = ((2 ^ 32 - n : Nat) : Int) := by rw [IntKind.wrap_u32]; omega
  have ha : and32 (n : Int) (IntKind.u32.wrap (0 - (n : Int))) = ((2 ^ c : Nat) : Int) := by rw [hw, and_nat n _ hn (by omega), hl]
  have he : ((n : Int) == 0) = false := by simp; omega
  unfold F11
  have ha' : IntKind.u32.wrap ((BitVec.ofInt IntKind.u32.bits (n : Int) &&& BitVec.ofInt IntKind.u32.bits (IntKind.u32.wrap (0 - (n : Int)))).toNat : Int) = ((2 ^ c : Nat) : Int) := ha
  rw [he, cond_false, ha', d27]
  have hi : IntKind.u32.wrap (((2 ^ c : Nat) : Int) * 125613361) / 134217728 = ((2 ^ c * 125613361 % 4294967296 / 134217728 : Nat) : Int) := by
    generalize 2 ^ c = q
    rw [IntKind.wrap_u32]
    omega
  rw [hi]
  generalize 2 ^ c * 125613361 % 4294967296 / 134217728 = j at d1 d2 ⊢
  have : nthT tabB (j : Int) = (c : Int) := by
    have := tabB_at j
    rw [d2] at this
    unfold nthT
    rw [Int.toNat_natCast, show (default : Int) = 0 from rfl, this]
  rw [this]
  exact wrap_i64_of (by omega) (by omega)
theorem tz_zero : F11 0 = 32 := rfl
/-- The lowest bit. -/
theorem tz_spec {x : Int} (hx : W x) (hne : x ≠ 0) : ∃ k : Nat, k < 32 ∧ F11 x = (k : Int) ∧ bit x k = true ∧ ∀ i, i < k → bit x i = false := by
  obtain ⟨n, rfl⟩ := Int.eq_ofNat_of_zero_le hx.1
  have hn : n < 4294967296 := by have := hx.2; omega
  have h0 : n ≠ 0 := by omega
  obtain ⟨h1, h2⟩ := tz_nat n h0 hn
  refine ⟨_, h2, h1, ?_⟩
  have hc : Lib.ctz 32 n = Lib.ctzFrom 32 n := by unfold Lib.ctz; rw [if_neg h0]
  obtain ⟨q, hq, _⟩ := Lib.ctzFrom_spec 32 n (by omega) hn
  rw [← hc] at hq
  generalize Lib.ctz 32 n = c at hq ⊢
  simp only [bit, Int.toNat_natCast]
  constructor
  · rw [hq, Nat.testBit_two_pow_mul]
    simp [Nat.testBit_zero]
  · intro i hi
    rw [hq, Nat.testBit_two_pow_mul]
    have : ¬ c ≤ i := by omega
    simp [this]
theorem tz_nonneg {x : Int} (hx : W x) : 0 ≤ F11 x := by
  by_cases h : x = 0
  · subst h; rw [tz_zero]; omega
  · obtain ⟨k, _, h2, _⟩ := tz_spec hx h; omega

end Go.Proofs.YtmaobgibcehhmaaDoor.Sp
