/- The proposals (own work). -/
import Derived.Test.YtkfhampdellhoaaV0
import Derived.Test.YtkfhampdellhoaaBuI
import Derived.Test.YtkfhampdellhoaaTr
namespace Go.Proofs.Ytkfhampdellhoaa.Sp
open Go Sy
set_option linter.unusedVariables false
set_option linter.unusedSimpArgs false
theorem park_sane' : F15 () = true := by kernel_rfl
def spr (b : BldT) (i : Int) : Int := IntKind.i64.wrap (Int.tdiv (IntKind.i64.wrap ((IntKind.i64.wrap ((IntKind.i64.wrap ((2 : Int) * i)) + (1 : Int))) * b.1)) (IntKind.i64.wrap ((2 : Int) * (b.2.2.2.2.2.2.2.length : Int))))
theorem spread_eq {b : BldT} (hB : IsB b) : F19 b = (List.range b.2.2.2.2.2.2.2.length).map (fun i : Nat => spr b i) := by
  have hl : b.cars.length ≤ maxLen := by have := hB.cn; simp only [maxLen]; omega
  have hn : 1 ≤ b.2.2.2.2.2.2.2.length ∧ b.2.2.2.2.2.2.2.length ≤ 8 := hB.cn
  unfold F19 G19_6
  rw [valid_eq b hl, (vld_zero b).2 hB]
  have h := (end_row_brk (k := (((b.2.2.2.2.2.2.2).length : Int), ((b.2.2.2.2.2.2.2).length : Int), b)) (step := st19_6) (fun i : Nat => ((List.range i).map (fun i : Nat => spr b i), (i : Int))) b.2.2.2.2.2.2.2.length
    (fun i hi => ⟨(((b.2.2.2.2.2.2.2).length : Int), ((b.2.2.2.2.2.2.2).length : Int), b), by
      have h1 : decide ((i : Int) < (b.2.2.2.2.2.2.2.length : Int)) = true := by simp; omega
      simp only [st19_6, h1, cond_true, wrap_succ hi (show b.2.2.2.2.2.2.2.length ≤ maxLen by simp only [maxLen]; omega), List.range_succ, List.map_append, List.map_cons, List.map_nil]
      rfl⟩) (k' := (((b.2.2.2.2.2.2.2).length : Int), ((b.2.2.2.2.2.2.2).length : Int), b)) (y := ((List.range b.2.2.2.2.2.2.2.length).map (fun i : Nat => spr b i), (b.2.2.2.2.2.2.2.length : Int))) (by simp [st19_6]) (fuel := Nat.succ (mu19_6 (((b.2.2.2.2.2.2.2).length : Int), ((b.2.2.2.2.2.2.2).length : Int), b) ([], 0))) (by simp [mu19_6])).1
  exact congrArg Prod.fst h
theorem rspread_eq {b : BldT} (hB : IsB b) : F20 b = (List.range b.2.2.2.2.2.2.2.length).map (fun i : Nat => spr b i) := by
  have hl : b.cars.length ≤ maxLen := by have := hB.cn; simp only [maxLen]; omega
  have hn : 1 ≤ b.2.2.2.2.2.2.2.length ∧ b.2.2.2.2.2.2.2.length ≤ 8 := hB.cn
  unfold F20 G20_6
  rw [rvalid_eq b hl, (vld_zero b).2 hB]
  have h := (end_row_brk (k := (((b.2.2.2.2.2.2.2).length : Int), b)) (step := st20_6) (fun i : Nat => ((List.range i).map (fun i : Nat => spr b i), (i : Int))) b.2.2.2.2.2.2.2.length
    (fun i hi => ⟨(((b.2.2.2.2.2.2.2).length : Int), b), by
      have h1 : decide ((i : Int) < (b.2.2.2.2.2.2.2.length : Int)) = true := by simp; omega
      simp only [st20_6, h1, cond_true, wrap_succ hi (show b.2.2.2.2.2.2.2.length ≤ maxLen by simp only [maxLen]; omega), List.range_succ, List.map_append, List.map_cons, List.map_nil]
      rfl⟩) (k' := (((b.2.2.2.2.2.2.2).length : Int), b)) (y := ((List.range b.2.2.2.2.2.2.2.length).map (fun i : Nat => spr b i), (b.2.2.2.2.2.2.2.length : Int))) (by simp [st20_6]) (fuel := Nat.succ (mu20_6 (((b.2.2.2.2.2.2.2).length : Int), b) ([], 0))) (by simp [mu20_6])).1
  exact congrArg Prod.fst h
theorem spr_eq {b : BldT} (hB : IsB b) {i : Int} (hi : 0 ≤ i ∧ i < b.2.2.2.2.2.2.2.length) : spr b i = ((2 * i + 1) * b.1) / (2 * (b.2.2.2.2.2.2.2.length : Int)) := by
  have hn : 1 ≤ b.2.2.2.2.2.2.2.length ∧ b.2.2.2.2.2.2.2.length ≤ 8 := hB.cn
  have hf := hB.fl
  have h1 : 0 ≤ (2 * i + 1) * b.1 := Int.mul_nonneg (by omega) (by omega)
  have h2 : (2 * i + 1) * b.1 ≤ 17 * 32 := Int.mul_le_mul (by omega) (by omega) (by omega) (by omega)
  unfold spr
  rw [wrap_i64_of (x := 2 * i) (by omega) (by omega), wrap_i64_of (x := 2 * i + 1) (by omega) (by omega), wrap_i64_of (x := (2 * i + 1) * b.1) (by omega) (by omega), wrap_i64_of (x := 2 * (b.2.2.2.2.2.2.2.length : Int)) (by omega) (by omega), Int.tdiv_eq_ediv_of_nonneg h1]
  have h3 : 0 ≤ ((2 * i + 1) * b.1) / (2 * (b.2.2.2.2.2.2.2.length : Int)) := Int.ediv_nonneg h1 (by omega)
  have h4 : ((2 * i + 1) * b.1) / (2 * (b.2.2.2.2.2.2.2.length : Int)) ≤ (2 * i + 1) * b.1 := Int.ediv_le_self _ h1
  exact wrap_i64_of (by omega) (by omega)
theorem spr_rng {b : BldT} (hB : IsB b) {i : Int} (hi : 0 ≤ i ∧ i < b.2.2.2.2.2.2.2.length) : 0 ≤ spr b i ∧ spr b i < b.1 := by
  have hn : 1 ≤ b.2.2.2.2.2.2.2.length ∧ b.2.2.2.2.2.2.2.length ≤ 8 := hB.cn
  have hf := hB.fl
  rw [spr_eq hB hi]
  refine ⟨Int.ediv_nonneg (Int.mul_nonneg (by omega) (by omega)) (by omega), Int.ediv_lt_of_lt_mul (by omega) ?_⟩
  rw [Int.mul_comm b.1]
  exact Int.mul_lt_mul_of_pos_right (by omega) (by omega)
theorem spr_up {b : BldT} (hB : IsB b) {i : Int} (hi : 1 ≤ i ∧ i < b.2.2.2.2.2.2.2.length) : spr b (i - 1) ≤ spr b i ∧ (b.1 ≥ b.2.2.2.2.2.2.2.length → spr b (i - 1) < spr b i) := by
  have hn : 1 ≤ b.2.2.2.2.2.2.2.length ∧ b.2.2.2.2.2.2.2.length ≤ 8 := hB.cn
  have hf := hB.fl
  rw [spr_eq hB (by omega), spr_eq hB (i := i) (by omega)]
  have e : (2 * i + 1) * b.1 = (2 * (i - 1) + 1) * b.1 + 2 * b.1 := by
    rw [← Int.add_mul]; congr 1; omega
  rw [e]
  generalize (2 * (i - 1) + 1) * b.1 = a
  constructor
  · exact Int.ediv_le_ediv (by omega) (by omega)
  · intro h
    have h1 : (a + 1 * (2 * (b.2.2.2.2.2.2.2.length : Int))) / (2 * (b.2.2.2.2.2.2.2.length : Int)) = a / (2 * (b.2.2.2.2.2.2.2.length : Int)) + 1 := Int.add_mul_ediv_right _ _ (by omega)
    have h2 : (a + 1 * (2 * (b.2.2.2.2.2.2.2.length : Int))) / (2 * (b.2.2.2.2.2.2.2.length : Int)) ≤ (a + 2 * b.1) / (2 * (b.2.2.2.2.2.2.2.length : Int)) := Int.ediv_le_ediv (by omega) (by omega)
    omega
theorem spreads_one {b : BldT} (hl : b.cars.length ≤ maxLen) : F19 b = F20 b ∧ R9_11 (F19 b, F20 b, b) 0 = none := by
  by_cases hB : IsB b
  · rw [spread_eq hB, rspread_eq hB]
    refine ⟨rfl, ?_⟩
    unfold R9_11
    have hn : 1 ≤ b.2.2.2.2.2.2.2.length ∧ b.2.2.2.2.2.2.2.length ≤ 8 := hB.cn
    refine ret_none (fun i => 0 ≤ i) (fun i hi => ?_) _ _ (by omega)
    simp only [st9_11]
    have hlen : ((List.range b.2.2.2.2.2.2.2.length).map (fun i : Nat => spr b i)).length = b.2.2.2.2.2.2.2.length := by simp
    have hnth : ∀ j : Int, 0 ≤ j → j < b.2.2.2.2.2.2.2.length → nthT ((List.range b.2.2.2.2.2.2.2.length).map (fun i : Nat => spr b i)) j = spr b j := by
      intro j h0 h1
      rw [nthT_of _ j h0 (by rw [hlen]; exact h1)]
      simp only [List.getElem_map, List.getElem_range]
      congr 1; omega
    rw [hlen]
    by_cases hi2 : i < (b.2.2.2.2.2.2.2.length : Int)
    · have hd : decide (i < (b.2.2.2.2.2.2.2.length : Int)) = true := by simpa using hi2
      rw [hd]
      have hr := spr_rng hB ⟨hi, hi2⟩
      have hc : (((((nthT ((List.range b.2.2.2.2.2.2.2.length).map (fun i : Nat => spr b i)) i) != (nthT ((List.range b.2.2.2.2.2.2.2.length).map (fun i : Nat => spr b i)) i)) || (decide ((nthT ((List.range b.2.2.2.2.2.2.2.length).map (fun i : Nat => spr b i)) i) < (0 : Int)))) || (decide ((nthT ((List.range b.2.2.2.2.2.2.2.length).map (fun i : Nat => spr b i)) i) ≥ b.1))) || ((decide (i > (0 : Int))) && ((decide ((nthT ((List.range b.2.2.2.2.2.2.2.length).map (fun i : Nat => spr b i)) i) < (nthT ((List.range b.2.2.2.2.2.2.2.length).map (fun i : Nat => spr b i)) (IntKind.i64.wrap (i - (1 : Int)))))) || (((nthT ((List.range b.2.2.2.2.2.2.2.length).map (fun i : Nat => spr b i)) i) == (nthT ((List.range b.2.2.2.2.2.2.2.length).map (fun i : Nat => spr b i)) (IntKind.i64.wrap (i - (1 : Int))))) && (decide (b.1 ≥ ((b.2.2.2.2.2.2.2).length : Int))))))) = false := by
        rw [Bool.eq_false_iff]
        intro hh
        rw [hnth i hi hi2, wrap_i64_of (x := i - 1) (by omega) (by omega)] at hh
        simp only [Bool.or_eq_true, Bool.and_eq_true, decide_eq_true_eq, bne_iff_ne, ne_eq, not_true_eq_false, false_or, beq_iff_eq] at hh
        rcases hh with (hh | hh) | ⟨hp, hh⟩
        · omega
        · omega
        · have hu := spr_up hB ⟨hp, hi2⟩
          rw [hnth (i - 1) (by omega) (by omega)] at hh
          rcases hh with hh | ⟨h1, h2⟩
          · omega
          · have := hu.2 h2; omega
      rw [hc]
      simp only [cond_true, cond_false]
      rw [wrap_i64_of (by omega) (by omega)]; omega
    · have hd : decide (i < (b.2.2.2.2.2.2.2.length : Int)) = false := by simpa using hi2
      rw [hd]; exact trivial
  · have e1 : F19 b = [] := by
      unfold F19
      have h1 : vld b ≠ 0 := fun h => hB ((vld_zero b).1 h)
      have h2 : (vld b != 0) = true := by simpa using h1
      rw [valid_eq b hl, h2]; rfl
    have e2 : F20 b = [] := by
      unfold F20
      have h1 : vld b ≠ 0 := fun h => hB ((vld_zero b).1 h)
      have h2 : (vld b != 0) = true := by simpa using h1
      rw [rvalid_eq b hl, h2]; rfl
    rw [e1, e2]
    exact ⟨rfl, rfl⟩
theorem law_spreads (x : Int × BldT) (h : InR ct9.p x) : F9 x = true := by
  obtain ⟨n, raw⟩ := x
  have hn : 0 ≤ n ∧ n ≤ 255 := by
    have := h.1
    simp only [ct9, InR, Lit.wf, Bool.and_eq_true, decide_eq_true_eq] at this
    exact this
  have hl : raw.cars.length ≤ maxLen := h.2.2.2.2.2.2.2.2.1
  have hB := build_isB hn
  unfold F9
  simp only []
  cases decide ((raw.2.2.2.2.2.2.2.length : Int) > 20) with
  | true => exact park_sane'
  | false =>
    simp only [cond_false]
    generalize F16 n = b at hB ⊢
    have hl2 : (BldT.cars b).length ≤ maxLen := by have := hB.cn; simp only [maxLen]; omega
    have hR : R9_5 ([b, raw], (([b, raw] : List BldT).length : Int)) 0 = none := by
      unfold R9_5
      refine ret_none (fun i => 0 ≤ i) (fun i hi => ?_) _ _ (by omega)
      simp only [st9_5]
      by_cases h2 : i < (([b, raw] : List BldT).length : Int)
      · have hd : decide (i < (([b, raw] : List BldT).length : Int)) = true := by simpa using h2
        have h3 : (BldT.cars (nthT [b, raw] i)).length ≤ maxLen := by
          have : i = 0 ∨ i = 1 := by simp only [List.length_cons, List.length_nil] at h2; omega
          rcases this with rfl | rfl
          · exact hl2
          · exact hl
        have h4 := spreads_one h3
        rw [hd, ← h4.1] at *
        rw [h4.2]
        simp only [cond_true, bne_self_eq_false, cond_false, optR_none]
        simp only [List.length_cons, List.length_nil] at h2
        rw [wrap_i64_of (by omega) (by omega)]; omega
      · have hd : decide (i < (([b, raw] : List BldT).length : Int)) = false := by simpa using h2
        rw [hd]; exact trivial
    rw [hR, optR_none]; exact park_sane'
end Go.Proofs.Ytkfhampdellhoaa.Sp
