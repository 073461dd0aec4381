/- Sets of floors: the next one above, the next one below (own work). -/
import Derived.Test.YtjdaplmlmmnokaaDoorBv
import Derived.Test.YtjdaplmlmmnokaaDoorBl
namespace Go.Proofs.YtjdaplmlmmnokaaDoor.Sp
open Go Sy
set_option linter.unusedVariables false
set_option linter.unusedSimpArgs false

abbrev allm (n : Int) : Int := IntKind.u32.wrap (shl32 1 n - 1)
theorem allm_val : ∀ n : Nat, n < 33 → allm (n : Int) = ((2 ^ n - 1 : Nat) : Int) := by decide +kernel
theorem bit_allm (n i : Nat) (hn : n ≤ 32) : bit (allm (n : Int)) i = decide (i < n) := by
  rw [allm_val n (by omega)]
  simp [bit, Nat.testBit_two_pow_sub_one]
theorem W_allm (n : Int) : W (allm n) := W_wrap _
theorem bit1 (i : Nat) (hi : i < 32) : bit 1 i = decide (i = 0) := by
  have := bit_one 0 i hi
  rwa [show shl32 1 ((0 : Nat) : Int) = 1 from rfl] at this
theorem W.one : W 1 := by unfold W; omega
theorem ne_zero_of {x : Int} {i : Nat} (h : bit x i = true) : x ≠ 0 := by
  intro h0; subst h0; rw [bit_zero] at h; cases h
theorem bit_lt {x : Int} (hx : W x) {i : Nat} (h : bit x i = true) : i < 32 := by
  rcases Nat.lt_or_ge i 32 with hi | hi
  · exact hi
  · rw [bit_hi hx hi] at h; cases h

/-- How far the next one above is; 0: there is none. -/
def AboveS (s : Int) (f : Nat) (d : Int) : Prop := (d = 0 ∧ ∀ i, f < i → bit s i = false) ∨ ∃ k, f < k ∧ bit s k = true ∧ (∀ i, f < i → i < k → bit s i = false) ∧ d = (k : Int) - f
def BelowS (s : Int) (f : Nat) (d : Int) : Prop := (d = 0 ∧ ∀ i, i < f → bit s i = false) ∨ ∃ k, k < f ∧ bit s k = true ∧ (∀ i, k < i → i < f → bit s i = false) ∧ d = (f : Int) - k
theorem AboveS.uniq {s : Int} {f : Nat} {d e : Int} (h : AboveS s f d) (h' : AboveS s f e) : d = e := by
  rcases h with ⟨h1, h2⟩ | ⟨k, h1, h2, h3, h4⟩ <;> rcases h' with ⟨g1, g2⟩ | ⟨j, g1, g2, g3, g4⟩
  · omega
  · rw [h2 j g1] at g2; cases g2
  · rw [g2 k h1] at h2; cases h2
  · rcases Nat.lt_trichotomy k j with h | h | h
    · rw [g3 k h1 h] at h2; cases h2
    · omega
    · rw [h3 j g1 h] at g2; cases g2
theorem BelowS.uniq {s : Int} {f : Nat} {d e : Int} (h : BelowS s f d) (h' : BelowS s f e) : d = e := by
  rcases h with ⟨h1, h2⟩ | ⟨k, h1, h2, h3, h4⟩ <;> rcases h' with ⟨g1, g2⟩ | ⟨j, g1, g2, g3, g4⟩
  · omega
  · rw [h2 j g1] at g2; cases g2
  · rw [g2 k h1] at h2; cases h2
  · rcases Nat.lt_trichotomy k j with h | h | h
    · rw [h3 j h g1] at g2; cases g2
    · omega
    · rw [g3 k h h1] at h2; cases h2
theorem AboveS.nn {s : Int} {f : Nat} {d : Int} (h : AboveS s f d) : 0 ≤ d := by rcases h with ⟨h1, _⟩ | ⟨k, h1, _, _, h4⟩ <;> omega
theorem BelowS.nn {s : Int} {f : Nat} {d : Int} (h : BelowS s f d) : 0 ≤ d := by rcases h with ⟨h1, _⟩ | ⟨k, h1, _, _, h4⟩ <;> omega
theorem AboveS.none {s : Int} {f : Nat} {d : Int} (h : AboveS s f d) : ¬ 0 < d ↔ ∀ i, f < i → bit s i = false := by
  rcases h with ⟨h1, h2⟩ | ⟨k, h1, h2, _, h4⟩
  · exact ⟨fun _ => h2, fun _ => by omega⟩
  · refine ⟨fun h => by omega, fun h => ?_⟩
    rw [h k h1] at h2; cases h2
theorem BelowS.none {s : Int} {f : Nat} {d : Int} (h : BelowS s f d) : ¬ 0 < d ↔ ∀ i, i < f → bit s i = false := by
  rcases h with ⟨h1, h2⟩ | ⟨k, h1, h2, _, h4⟩
  · exact ⟨fun _ => h2, fun _ => by omega⟩
  · refine ⟨fun h => by omega, fun h => ?_⟩
    rw [h k h1] at h2; cases h2
theorem AboveS.le {s : Int} (hs : W s) {f : Nat} {d : Int} (h : AboveS s f d) : d ≤ 32 := by
  rcases h with ⟨h1, h2⟩ | ⟨k, h1, h2, _, h4⟩
  · omega
  · have := bit_lt hs h2; omega

theorem above_tz {s : Int} (hs : W s) (f : Nat) (hf : f < 32) :
    (shr32 (shr32 s (f : Int)) 1 = 0 → ∀ i, f < i → bit s i = false) ∧ (shr32 (shr32 s (f : Int)) 1 ≠ 0 → AboveS s f (1 + F19 (shr32 (shr32 s (f : Int)) 1)) ∧ 0 ≤ F19 (shr32 (shr32 s (f : Int)) 1) ∧ F19 (shr32 (shr32 s (f : Int)) 1) < 32) := by
  have hw : W (shr32 s (f : Int)) := W_shr hs _ (by omega)
  have hv : W (shr32 (shr32 s (f : Int)) 1) := W_shr hw _ (by omega)
  have hb : ∀ i, bit (shr32 (shr32 s (f : Int)) 1) i = bit s (f + (1 + i)) := fun i => by
    have := bit_shr hw 1 i
    rw [show (((1 : Nat) : Int)) = 1 from rfl] at this
    rw [this, bit_shr hs]
  constructor
  · intro h0 i hi
    have := hb (i - f - 1)
    rw [h0, bit_zero, show f + (1 + (i - f - 1)) = i by omega] at this
    exact this.symm
  · intro hne
    obtain ⟨k, hk, h1, h2, h3⟩ := tz_spec hv hne
    rw [h1]
    refine ⟨.inr ⟨f + (1 + k), by omega, by rw [← hb]; exact h2, fun i h4 h5 => ?_, by omega⟩, by omega, by omega⟩
    have := h3 (i - f - 1) (by omega)
    rw [hb, show f + (1 + (i - f - 1)) = i by omega] at this
    exact this
theorem below_len {s : Int} (hs : W s) (f : Nat) (hf : f < 32) :
    (and32 s (allm (f : Int)) = 0 → ∀ i, i < f → bit s i = false) ∧ (and32 s (allm (f : Int)) ≠ 0 → BelowS s f ((f : Int) - F20 (and32 s (allm (f : Int))) + 1) ∧ 0 ≤ F20 (and32 s (allm (f : Int))) ∧ F20 (and32 s (allm (f : Int))) ≤ 32) := by
  have hv : W (and32 s (allm (f : Int))) := W_and _ _
  have hb : ∀ i, i < 32 → bit (and32 s (allm (f : Int))) i = (bit s i && decide (i < f)) := fun i hi => by
    rw [bit_and hs.1 (W_allm _).1 i hi, bit_allm f i (by omega)]
  constructor
  · intro h0 i hi
    have := hb i (by omega)
    rw [h0, bit_zero] at this
    simpa [hi] using this.symm
  · intro hne
    obtain ⟨k, hk, h1, h2, h3⟩ := len_spec hv hne
    rw [h1]
    rw [hb k hk] at h2
    simp only [Bool.and_eq_true, decide_eq_true_eq] at h2
    refine ⟨.inr ⟨k, h2.2, h2.1, fun i h4 h5 => ?_, by omega⟩, by omega, by omega⟩
    have := h3 i h4
    rw [hb i (by omega)] at this
    simpa [h5] using this
/-- The first of a row. -/
theorem first_of (p : Nat → Bool) : (∀ i, p i = false) ∨ ∃ k, p k = true ∧ ∀ i, i < k → p i = false := by
  by_cases h : ∃ k, p k = true
  · right
    obtain ⟨k, hk⟩ := h
    induction k using Nat.strongRecOn with
    | _ k ih =>
      by_cases h2 : ∃ i, i < k ∧ p i = true
      · obtain ⟨i, h3, h4⟩ := h2; exact ih i h3 h4
      · exact ⟨k, hk, fun i hi => by cases hp : p i with | false => rfl | true => exact absurd ⟨i, hi, hp⟩ h2⟩
  · left
    intro i
    cases hp : p i with | false => rfl | true => exact absurd ⟨i, hp⟩ h
/-- One bit of a word. -/
theorem and_shl {a : Int} (ha : W a) (f : Nat) (hf : f < 32) : and32 a (shl32 1 (f : Int)) = bif bit a f then shl32 1 (f : Int) else 0 := by
  refine W.ext (W_and _ _) (by cases bit a f; exact W.zero; exact W_shl _ _) fun i hi => ?_
  rw [bit_and ha.1 (W_shl _ _).1 i hi, bit_one f i hi]
  by_cases h : i = f
  · subst h; cases hb : bit a i <;> simp [hb, bit_zero, bit_one i i hi]
  · cases hb : bit a f <;> simp [h, bit_zero, bit_one f i hi]
end Go.Proofs.YtjdaplmlmmnokaaDoor.Sp
