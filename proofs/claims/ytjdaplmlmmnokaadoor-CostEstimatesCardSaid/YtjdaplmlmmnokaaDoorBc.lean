/- The stops that count, as sets (own work; the same words as in the collective texts). -/
import Derived.Test.YtjdaplmlmmnokaaDoorBs
namespace Go.Proofs.YtjdaplmlmmnokaaDoor.Sp
open Go Sy
set_option linter.unusedVariables false
set_option linter.unusedSimpArgs false
set_option maxRecDepth 10000

abbrev cA (n : Nat) (c : Int) : Int := and32 c (allm (n : Int))
abbrev cU (n : Nat) (u : Int) : Int := and32 u (shr32 (allm (n : Int)) 1)
abbrev cD (n : Nat) (d : Int) : Int := and32 d (nand32 (allm (n : Int)) 1)
def isAt (n : Nat) (c u d : Int) (j : Nat) : Bool := bit (cA n c) j || bit (cU n u) j || bit (cD n d) j
section
variable {n : Nat} {c u d : Int}
theorem bit_cA (hn : n ≤ 32) (hc : W c) (i : Nat) : bit (cA n c) i = (bit c i && decide (i < n)) := by
  rcases Nat.lt_or_ge i 32 with hi | hi
  · rw [bit_and hc.1 (W_allm _).1 i hi, bit_allm n i hn]
  · rw [bit_hi (W_and _ _) hi, bit_hi hc hi, Bool.false_and]
theorem bit_cU (hn : n ≤ 32) (hu : W u) (i : Nat) : bit (cU n u) i = (bit u i && decide (i + 1 < n)) := by
  rcases Nat.lt_or_ge i 32 with hi | hi
  · have e : bit (shr32 (allm (n : Int)) 1) i = bit (allm (n : Int)) (1 + i) := bit_shr (W_allm _) 1 i
    rw [bit_and hu.1 (W_shr (W_allm _) _ (by omega)).1 i hi, e, bit_allm n _ hn, Nat.add_comm 1 i]
  · rw [bit_hi (W_and _ _) hi, bit_hi hu hi, Bool.false_and]
theorem bit_cD (hn : n ≤ 32) (hd : W d) (i : Nat) : bit (cD n d) i = (bit d i && decide (0 < i ∧ i < n)) := by
  rcases Nat.lt_or_ge i 32 with hi | hi
  · rw [bit_and hd.1 (W_nand _ _).1 i hi, bit_nand (W_allm _).1 (by omega) i hi, bit_allm n _ hn, bit1 i hi]
    congr 1
    rw [Bool.eq_iff_iff]; simp; omega
  · rw [bit_hi (W_and _ _) hi, bit_hi hd hi, Bool.false_and]
theorem isAt_lt (hn : n ≤ 32) (hc : W c) (hu : W u) (hd : W d) {i : Nat} (h : isAt n c u d i = true) : i < n := by
  unfold isAt at h
  rw [bit_cA hn hc, bit_cU hn hu, bit_cD hn hd] at h
  simp only [Bool.or_eq_true, Bool.and_eq_true, decide_eq_true_eq] at h
  omega
end
theorem uwrap (f : Nat) (hf : f < 32) : IntKind.u64.wrap (f : Int) = (f : Int) := wrap_u64_of (by omega) (by omega)
/-- Numbers of floors. -/
theorem floors31 {m : Int} (h0 : 0 ≤ m) (h1 : m ≤ 255) : ∃ n : Nat, 2 ≤ n ∧ n ≤ 32 ∧ IntKind.i64.wrap ((2 : Int) + (IntKind.i64.wrap (Int.tmod m (31 : Int)))) = (n : Int) := by
  refine ⟨(2 + m % 31).toNat, by omega, by omega, ?_⟩
  rw [tmod_lit, if_pos h0, wrap_i64_of (x := m % 31) (by omega) (by omega), wrap_i64_of (by omega) (by omega)]
  omega
theorem floor_of (p : Int) {n : Nat} (h : 1 ≤ n) (hn : n ≤ 32) : ∃ f : Nat, f < n ∧ IntKind.i64.wrap (Int.tmod (IntKind.u64.wrap p) (IntKind.u64.wrap (n : Int))) = (f : Int) := by
  have h0 : 0 ≤ IntKind.u64.wrap p := by rw [IntKind.wrap_u64]; omega
  rw [wrap_u64_of (x := (n : Int)) (by omega) (by omega), Int.tmod_eq_emod_of_nonneg h0]
  have h1 := Int.emod_nonneg (IntKind.u64.wrap p) (show (n : Int) ≠ 0 by omega)
  have h2 := Int.emod_lt_of_pos (IntKind.u64.wrap p) (show (0 : Int) < n by omega)
  refine ⟨(IntKind.u64.wrap p % (n : Int)).toNat, by omega, ?_⟩
  rw [wrap_i64_of (by omega) (by omega)]
  omega
theorem u8_of {x : Int} (h : (Lit.int .u8 x).wf = true) : 0 ≤ x ∧ x ≤ 255 := by
  simp only [Lit.wf, Bool.and_eq_true, decide_eq_true_eq] at h
  exact ⟨h.1, h.2⟩
theorem W_of {x : Int} (h : (Lit.int .u32 x).wf = true) : W x := by
  simp only [Lit.wf, Bool.and_eq_true, decide_eq_true_eq] at h
  have h1 : (0 : Int) ≤ x := h.1
  have h2 : x ≤ (4294967295 : Int) := h.2
  unfold W; omega
end Go.Proofs.YtjdaplmlmmnokaaDoor.Sp
