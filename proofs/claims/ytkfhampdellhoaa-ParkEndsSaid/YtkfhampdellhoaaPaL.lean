/- The laws of parking: moves and ends (own work). -/
import Derived.Test.YtkfhampdellhoaaP2
import Derived.Test.YtkfhampdellhoaaBuI
import Derived.Test.YtkfhampdellhoaaTr
namespace Go.Proofs.Ytkfhampdellhoaa.Sp
open Go Sy
set_option linter.unusedVariables false
set_option linter.unusedSimpArgs false
theorem park_sane : F15 () = true := by kernel_rfl
theorem pmove_eq (b : BldT) (hl : b.cars.length ≤ maxLen) (z : Int × Int × Int) : F18 (b, z) = F17 (b, z) := by
  unfold F18 F17
  simp only [valid_eq b hl, rvalid_eq b hl]
theorem law_moves (x : Int × BldT × Int × Int × Int) (h : InR ct7.p x) : F7 x = true := by
  obtain ⟨n, raw, x1, x2, x3⟩ := x
  have hn : 0 ≤ n ∧ n ≤ 255 := by
    have := h.1
    simp only [ct7, InR, Lit.wf, Bool.and_eq_true, decide_eq_true_eq] at this
    exact this
  have hl : raw.cars.length ≤ maxLen := h.2.1.2.2.2.2.2.2.2.1
  have hB := build_isB hn
  unfold F7
  simp only []
  cases decide ((raw.2.2.2.2.2.2.2.length : Int) > 20) with
  | true => exact park_sane
  | false =>
    simp only [cond_false]
    generalize F16 n = b at hB ⊢
    have hl2 : (BldT.cars b).length ≤ maxLen := by have := hB.cn; simp only [maxLen]; omega
    have hR : R7_5 ((x1, x2, x3), b) (-1) = none := by
      unfold R7_5
      refine ret_none (fun _ => True) (fun c _ => ?_) _ _ trivial
      have h8 : R7_8 (c, (x1, x2, x3), b) (-1) = none := by
        unfold R7_8
        refine ret_none (fun _ => True) (fun f _ => ?_) _ _ trivial
        have h11 : ∀ l m, R7_11 (c, f, l, m, b) 0 = none := by
          intro l m
          unfold R7_11
          refine ret_none (fun _ => True) (fun i _ => ?_) _ _ trivial
          have e := pmove_eq b hl2 (c, nthT l i, f)
          simp only [st7_11, e, bne_self_eq_false, cond_false]
          cases decide (i < m) <;> exact trivial
        simp only [st7_8, h11, optR_none]
        cases decide (f ≤ b.1) <;> exact trivial
      simp only [st7_5, h8, optR_none]
      cases decide (c ≤ (b.2.2.2.2.2.2.2.length : Int)) <;> exact trivial
    rw [hR, optR_none, pmove_eq raw hl, pmove_eq b hl2, park_sane]
    simp
/-- What a car that has waited long enough does. -/
theorem pmove_of {b : BldT} (hB : IsB b) {c f : Int} (hc : 0 ≤ c ∧ c < b.cars.length) (hf : 0 ≤ f ∧ f < b.1) :
    F17 (b, c, b.2.2.2.1, f) = if (nthT b.2.2.2.2.2.2.2 c).2.2.2.2.2.2.2.2 > f then 1 else if (nthT b.2.2.2.2.2.2.2 c).2.2.2.2.2.2.2.2 < f then 2 else 0 := by
  have hl : b.cars.length ≤ maxLen := by have := hB.cn; simp only [maxLen]; omega
  have hc2 : c < (b.2.2.2.2.2.2.2.length : Int) := hc.2
  unfold F17
  simp only [valid_eq b hl, (vld_zero b).2 hB]
  have e : (((((((0 : Int) != (0 : Int)) || (decide (c < (0 : Int)))) || (decide (c ≥ (b.2.2.2.2.2.2.2.length : Int)))) || (decide (f < (0 : Int)))) || (decide (f ≥ b.1))) || (decide (b.2.2.2.1 < b.2.2.2.1))) = false := by
    rw [Bool.eq_false_iff]
    simp only [ne_eq, Bool.or_eq_true, decide_eq_true_eq, bne_iff_ne, not_true_eq_false, false_or]
    omega
  rw [e]
  simp only [cond_false, Bool.cond_eq_ite, decide_eq_true_eq, Bool.false_eq_true, if_false]
theorem law_ends (x : Int × Int × Int) (h : InR ct8.p x) : F8 x = true := by
  simp only [ct8, InR, Lit.wf, Bool.and_eq_true, decide_eq_true_eq] at h
  obtain ⟨n, car, fl⟩ := x
  have hn : 0 ≤ n ∧ n ≤ 255 := h.1
  have hcar : 0 ≤ car ∧ car ≤ 255 := h.2.1
  have hfl : 0 ≤ fl ∧ fl ≤ 255 := h.2.2
  have hB := build_isB hn
  unfold F8
  simp only [K8_1]
  generalize F16 n = b at hB ⊢
  have h1 : 1 ≤ b.2.2.2.2.2.2.2.length ∧ b.2.2.2.2.2.2.2.length ≤ 8 := hB.cn
  have h2 := hB.fl
  rw [wrap_i64_of (x := car) (by omega) (by omega), wrap_i64_of (x := fl) (by omega) (by omega), Int.tmod_eq_emod_of_nonneg (a := car) hcar.1, Int.tmod_eq_emod_of_nonneg (a := fl) hfl.1]
  obtain ⟨c, hC⟩ : ∃ c, car % (b.2.2.2.2.2.2.2.length : Int) = c := ⟨_, rfl⟩
  obtain ⟨f, hF⟩ : ∃ f, fl % b.1 = f := ⟨_, rfl⟩
  have hc : 0 ≤ c ∧ c < b.2.2.2.2.2.2.2.length := by rw [← hC]; exact ⟨Int.emod_nonneg _ (by omega), Int.emod_lt_of_pos _ (by omega)⟩
  have hf : 0 ≤ f ∧ f < b.1 := by rw [← hF]; exact ⟨Int.emod_nonneg _ (by omega), Int.emod_lt_of_pos _ (by omega)⟩
  simp only [hC, hF]
  have h3 := hB.home hc.1 hc.2
  have hmv := fun f' (hf' : 0 ≤ f' ∧ f' < b.1) => pmove_of hB (c := c) (f := f') hc hf'
  generalize (nthT b.2.2.2.2.2.2.2 c).2.2.2.2.2.2.2.2 = ho at h3 hmv ⊢
  rw [wrap_i64_of (x := f - ho) (by omega) (by omega), wrap_i64_of (x := ho - f) (by omega) (by omega)]
  obtain ⟨aw, hA⟩ : ∃ aw, max (f - ho) (ho - f) = aw := ⟨_, rfl⟩
  rw [hA]
  -- where the car is behind i steps
  have key := loop_spec (k := ((c, aw, b) : Int × Int × BldT)) (step := st8_5) (fun x => 0 ≤ x.2 ∧ x.2 ≤ aw + 1 ∧ ((ho ≥ f ∧ x.1 = min (f + x.2) ho) ∨ (ho ≤ f ∧ x.1 = max (f - x.2) ho))) (mu8_5 (c, aw, b)) (fun o y => o = none ∧ y.1 = ho) (fun x hx => ?_) _ (f, 0) ⟨by show (0 : Int) ≤ 0; omega, by show (0 : Int) ≤ aw + 1; omega, by show (ho ≥ f ∧ f = min (f + 0) ho) ∨ (ho ≤ f ∧ f = max (f - 0) ho); omega⟩ (Nat.lt_succ_self _)
  · have hR : R8_5 (c, aw, b) (f, 0) = none := key.1
    have hG : (G8_5 (c, aw, b) (f, 0)).1 = ho := key.2
    rw [hR, optR_none, hG, park_sane]; simp
  · obtain ⟨g, i⟩ := x
    have hi : 0 ≤ i ∧ i ≤ aw + 1 := ⟨hx.1, hx.2.1⟩
    have hg : (ho ≥ f ∧ g = min (f + i) ho) ∨ (ho ≤ f ∧ g = max (f - i) ho) := hx.2.2
    simp only [st8_5, mu8_5, hmv g (by omega)]
    by_cases hia : i ≤ aw
    · simp only [hia, decide_true, cond_true]
      by_cases h5 : i = aw
      · have h6 : g = ho := by omega
        subst h6
        have e1 : ((if g > g then (1 : Int) else if g < g then 2 else 0) == 0) = true := by rw [if_neg (by omega), if_neg (by omega)]; rfl
        have e2 : (i == aw) = true := by simpa using h5
        rw [e1, e2, if_neg (by omega), if_neg (by omega)]
        simp only [bne_self_eq_false, cond_false, Int.reduceBEq]
        rw [wrap_i64_of (by omega) (by omega)]
        refine ⟨⟨by omega, by omega, by omega⟩, by omega⟩
      · have e2 : (i == aw) = false := by simpa using h5
        by_cases h7 : ho > g
        · rw [if_pos h7, e2]
          simp only [Int.reduceBEq, bne_self_eq_false, cond_false, cond_true]
          rw [wrap_i64_of (by omega) (by omega), wrap_i64_of (by omega) (by omega)]
          refine ⟨⟨by omega, by omega, by omega⟩, by omega⟩
        · have h8 : ho < g := by omega
          rw [if_neg h7, if_pos h8, e2]
          simp only [Int.reduceBEq, bne_self_eq_false, cond_false, cond_true]
          rw [wrap_i64_of (by omega) (by omega), wrap_i64_of (by omega) (by omega)]
          refine ⟨⟨by omega, by omega, by omega⟩, by omega⟩
    · simp only [hia, decide_false, cond_false]
      exact ⟨trivial, by omega⟩
end Go.Proofs.Ytkfhampdellhoaa.Sp
