/- Which buildings are valid, for the program and the reference (own work). -/
import Derived.Test.YtghlpolodjlgjaaT2
import Derived.Test.YtghlpolodjlgjaaBuA
namespace Go.Proofs.Ytghlpolodjlgjaa.Sp
open Go Sy
set_option linter.unusedVariables false
set_option linter.unusedSimpArgs false
abbrev CarT := Int × Int × Int × Int × Int × Int × Int × Int × Int
abbrev BldT := Int × Int × Int × Int × Nat × Nat × Nat × List CarT
abbrev BldT.cars (b : BldT) : List CarT := b.2.2.2.2.2.2.2

def tOk (n : Int) : Bool := decide (1 ≤ n) && decide (n ≤ 10000)
def carOk (fl : Int) (c : CarT) : Bool :=
  tOk c.1 && tOk c.2.1 && tOk c.2.2.1 && tOk c.2.2.2.2.1 && tOk c.2.2.2.2.2.1 && tOk c.2.2.2.2.2.2.1 && tOk c.2.2.2.2.2.2.2.1 && (decide (0 ≤ c.2.2.2.1) && decide (c.2.2.2.1 ≤ 10000)) &&
    decide (c.2.2.2.2.2.2.2.1 ≥ c.2.2.2.2.2.2.1) && (decide (0 ≤ c.2.2.2.2.2.2.2.2) && decide (c.2.2.2.2.2.2.2.2 ≤ fl - 1))
def loadsOk (b : BldT) : Bool := F19 b
def vld (b : BldT) : Int :=
  if ¬ (2 ≤ b.1 ∧ b.1 ≤ 32) then 10
  else if ¬ (1 ≤ b.cars.length ∧ b.cars.length ≤ 8) then 11
  else if ((decide (1 ≤ b.2.1) && decide (b.2.1 ≤ 16)) && (decide (1 ≤ b.2.2.2.1) && decide (b.2.2.2.1 ≤ 10000)) && b.cars.all (carOk b.1)) = false then 12
  else if loadsOk b = false then 13
  else if ¬ (18 * (b.cars.length : Int) + 24 ≤ b.2.2.1 ∧ b.2.2.1 ≤ 65536) then 14
  else 0

theorem in_eq (n lo hi : Int) : F20 (n, lo, hi) = (decide (lo ≤ n) && decide (n ≤ hi)) := rfl

theorem times_eq (c : CarT) (fl : Int) (h : 2 ≤ fl ∧ fl ≤ 32) : F18 (c, fl) = carOk fl c := by
  unfold F18 carOk tOk
  rw [within_eq _ _ _ (by simp [maxLen]), within_one, within_one, wrap_i64_of (by omega) (by omega)]
  simp only [List.all_cons, List.all_nil, Bool.and_true, Bool.and_assoc]

theorem rtimes_eq (b : BldT) (c : CarT) (h : 2 ≤ b.1 ∧ b.1 ≤ 32) : F21 (b, c) = carOk b.1 c := by
  unfold F21
  simp only [in_eq]
  rw [wrap_i64_of (x := b.1 - 1) (by omega) (by omega)]
  by_cases hs : c.2.2.2.1 < 0 ∨ c.2.2.2.1 > 10000
  · have h1 : (decide (c.2.2.2.1 < 0) || decide (c.2.2.2.1 > 10000)) = true := by simpa using hs
    rw [h1]
    have h2 : (decide (0 ≤ c.2.2.2.1) && decide (c.2.2.2.1 ≤ 10000)) = false := by
      simp only [Bool.and_eq_false_iff, decide_eq_false_iff_not]; omega
    unfold carOk
    rw [h2]
    simp
  · have h1 : (decide (c.2.2.2.1 < 0) || decide (c.2.2.2.1 > 10000)) = false := by simpa using hs
    have h2 : (decide (0 ≤ c.2.2.2.1) && decide (c.2.2.2.1 ≤ 10000)) = true := by
      simp only [Bool.and_eq_true, decide_eq_true_eq]; omega
    rw [h1]
    simp only [cond_false]
    let l : List Int := [c.1, c.2.1, c.2.2.1, c.2.2.2.2.1, c.2.2.2.2.2.1, c.2.2.2.2.2.2.1, c.2.2.2.2.2.2.2.1]
    have hR : R21_5 (l ++ [IntKind.i64.wrap (c.2.2.2.1 + 1)]) 0 = l.findSome? (fun n => if tOk n then none else some false) := by
      simp only [R21_5]
      rw [← findSome_range l]
      have := ret_row (step := st21_5) (k := l ++ [IntKind.i64.wrap (c.2.2.2.1 + 1)]) (fun i => (i : Int)) (fun i => (fun n => if tOk n then none else some false) (nthT l (i : Int))) 7 (fun i hi => ?_) (k' := l ++ [IntKind.i64.wrap (c.2.2.2.1 + 1)]) (y := (7 : Int)) ?_ (fuel := Nat.succ (mu21_5 (l ++ [IntKind.i64.wrap (c.2.2.2.1 + 1)]) 0)) ?_
      · exact this
      · have hn : nthT (l ++ [IntKind.i64.wrap (c.2.2.2.1 + 1)]) (i : Int) = nthT l (i : Int) := by
          rw [nthT_nat _ i (by simp [l]; omega), nthT_nat l i (by simpa [l] using hi), List.getElem_append_left]
        have h3 : decide ((i : Int) < 7) = true := by simp; omega
        simp only [st21_5, hn, h3, cond_true, in_eq]
        have h4 : (decide (1 ≤ nthT l (i : Int)) && decide (nthT l (i : Int) ≤ 10000)) = tOk (nthT l (i : Int)) := rfl
        rw [h4, wrap_succ hi (by simp [maxLen])]
        cases tOk (nthT l (i : Int)) with
        | true => exact ⟨_, rfl⟩
        | false => rfl
      · simp [st21_5]
      · simp [mu21_5]
    have hR' : R21_5 [c.1, c.2.1, c.2.2.1, c.2.2.2.2.1, c.2.2.2.2.2.1, c.2.2.2.2.2.2.1, c.2.2.2.2.2.2.2.1, IntKind.i64.wrap (c.2.2.2.1 + 1)] 0 = l.findSome? (fun n => if tOk n then none else some false) := hR
    rw [hR']
    have h5 := findSome_all l tOk
    have h6 : ∀ d : Bool, optR (l.findSome? (fun n => if tOk n then none else some false)) (fun y => y) d = (l.all tOk && d) := by
      intro d
      cases hq : l.findSome? (fun n => if tOk n then none else some false) with
      | none =>
        rw [hq, optR_none] at h5
        rw [optR_none, ← h5]; rfl
      | some r =>
        rw [hq, optR_some] at h5
        rw [optR_some]
        have : r = false := by
          obtain ⟨x, _, hx⟩ := List.exists_of_findSome?_eq_some hq
          split at hx
          · cases hx
          · simpa using hx.symm
        rw [← h5, this]; rfl
    rw [h6]
    unfold carOk
    rw [h2]
    simp only [l, List.all_cons, List.all_nil, Bool.and_true, Bool.and_assoc]

theorem valid_eq (b : BldT) (hl : b.cars.length ≤ maxLen) : F8 b = vld b := by
  unfold F8 vld
  simp only [within_one]
  by_cases h1 : 2 ≤ b.1 ∧ b.1 ≤ 32
  · have e1 : (!(decide (2 ≤ b.1) && decide (b.1 ≤ 32))) = false := by simp [h1]
    rw [e1, if_neg (by simpa using h1)]
    simp only [cond_false]
    by_cases h2 : 1 ≤ b.cars.length ∧ b.cars.length ≤ 8
    · have e2 : (!(decide ((1 : Int) ≤ (b.cars.length : Int)) && decide ((b.cars.length : Int) ≤ 8))) = false := by simp; omega
      rw [e2, if_neg (by simpa using h2)]
      simp only [cond_false]
      have e3 : ∀ b0 : Bool, (G8_7 (b.cars, (b.cars.length : Int), b) (b0, 0)).1 = (b0 && b.cars.all (carOk b.1)) := by
        intro b0
        unfold G8_7
        refine end_all b.cars (carOk b.1) hl (fun b' i => ?_) b0 (by simp [mu8_7])
        simp only [st8_7, times_eq _ _ h1]
      rw [e3]
      rw [wrap_i64_of (x := 18 * (b.cars.length : Int)) (by omega) (by omega), wrap_i64_of (by omega) (by omega)]
      cases h3 : ((decide (1 ≤ b.2.1) && decide (b.2.1 ≤ 16)) && (decide (1 ≤ b.2.2.2.1) && decide (b.2.2.2.1 ≤ 10000)) && b.cars.all (carOk b.1)) with
      | false => rfl
      | true =>
        simp only [Bool.not_true, cond_false, Bool.true_eq_false, if_false]
        show (bif !loadsOk b then _ else _) = _
        cases h4 : loadsOk b with
        | false => rfl
        | true =>
          simp only [Bool.not_true, cond_false, Bool.true_eq_false, if_false]
          by_cases h5 : 18 * (b.cars.length : Int) + 24 ≤ b.2.2.1 ∧ b.2.2.1 ≤ 65536
          · rw [if_neg (by simpa using h5)]; simp [h5]
          · rw [if_pos h5]
            have : (decide (18 * (b.cars.length : Int) + 24 ≤ b.2.2.1) && decide (b.2.2.1 ≤ 65536)) = false := by
              simp only [Bool.and_eq_false_iff, decide_eq_false_iff_not]; omega
            rw [this]; rfl
    · have e2 : (!(decide ((1 : Int) ≤ (b.cars.length : Int)) && decide ((b.cars.length : Int) ≤ 8))) = true := by
        simp only [Bool.not_eq_true', Bool.and_eq_false_iff, decide_eq_false_iff_not]; omega
      rw [e2, if_pos h2]; rfl
  · have e1 : (!(decide (2 ≤ b.1) && decide (b.1 ≤ 32))) = true := by
      simp only [Bool.not_eq_true', Bool.and_eq_false_iff, decide_eq_false_iff_not]; omega
    rw [e1, if_pos h1]; rfl

theorem rvalid_eq (b : BldT) (hl : b.cars.length ≤ maxLen) : F9 b = vld b := by
  unfold F9 vld
  simp only [in_eq]
  by_cases h1 : 2 ≤ b.1 ∧ b.1 ≤ 32
  · have e1 : (!(decide (2 ≤ b.1) && decide (b.1 ≤ 32))) = false := by simp [h1]
    rw [e1, if_neg (by simpa using h1)]
    simp only [cond_false]
    by_cases h2 : 1 ≤ b.cars.length ∧ b.cars.length ≤ 8
    · have e2 : (!(decide ((1 : Int) ≤ (b.cars.length : Int)) && decide ((b.cars.length : Int) ≤ 8))) = false := by simp; omega
      rw [e2, if_neg (by simpa using h2)]
      simp only [cond_false]
      have e3 : ∀ b0 : Bool, (G9_7 b (b0, 0)).1 = (b0 && b.cars.all (carOk b.1)) := by
        intro b0
        unfold G9_7
        refine end_all b.cars (carOk b.1) hl (fun b' i => ?_) b0 (by simp [mu9_7])
        simp only [st9_7, rtimes_eq _ _ h1]
      rw [e3]
      rw [wrap_i64_of (x := 18 * (b.cars.length : Int)) (by omega) (by omega), wrap_i64_of (by omega) (by omega)]
      cases h3 : ((decide (1 ≤ b.2.1) && decide (b.2.1 ≤ 16)) && (decide (1 ≤ b.2.2.2.1) && decide (b.2.2.2.1 ≤ 10000)) && b.cars.all (carOk b.1)) with
      | false => rfl
      | true =>
        simp only [Bool.not_true, cond_false, Bool.true_eq_false, if_false]
        show (bif !loadsOk b then _ else _) = _
        cases h4 : loadsOk b with
        | false => rfl
        | true =>
          simp only [Bool.not_true, cond_false, Bool.true_eq_false, if_false]
          by_cases h5 : 18 * (b.cars.length : Int) + 24 ≤ b.2.2.1 ∧ b.2.2.1 ≤ 65536
          · rw [if_neg (by simpa using h5)]; simp [h5]
          · rw [if_pos h5]
            have : (decide (18 * (b.cars.length : Int) + 24 ≤ b.2.2.1) && decide (b.2.2.1 ≤ 65536)) = false := by
              simp only [Bool.and_eq_false_iff, decide_eq_false_iff_not]; omega
            rw [this]; rfl
    · have e2 : (!(decide ((1 : Int) ≤ (b.cars.length : Int)) && decide ((b.cars.length : Int) ≤ 8))) = true := by
        simp only [Bool.not_eq_true', Bool.and_eq_false_iff, decide_eq_false_iff_not]; omega
      rw [e2, if_pos h2]; rfl
  · have e1 : (!(decide (2 ≤ b.1) && decide (b.1 ≤ 32))) = true := by
      simp only [Bool.not_eq_true', Bool.and_eq_false_iff, decide_eq_false_iff_not]; omega
    rw [e1, if_pos h1]; rfl

/-- What a valid building is. -/
structure IsB (b : BldT) : Prop where
  fl : 2 ≤ b.1 ∧ b.1 ≤ 32
  cn : 1 ≤ b.cars.length ∧ b.cars.length ≤ 8
  deb : 1 ≤ b.2.1 ∧ b.2.1 ≤ 16
  park : 1 ≤ b.2.2.2.1 ∧ b.2.2.2.1 ≤ 10000
  car : ∀ c ∈ b.cars, carOk b.1 c = true
  loads : loadsOk b = true
  room : 18 * (b.cars.length : Int) + 24 ≤ b.2.2.1 ∧ b.2.2.1 ≤ 65536

theorem vld_zero (b : BldT) : vld b = 0 ↔ IsB b := by
  unfold vld
  constructor
  · intro h
    split at h
    · cases h
    · rename_i h1
      split at h
      · cases h
      · rename_i h2
        split at h
        · cases h
        · rename_i h3
          split at h
          · cases h
          · rename_i h4
            split at h
            · cases h
            · rename_i h5
              simp only [Bool.not_eq_false, Bool.and_eq_true, decide_eq_true_eq, List.all_eq_true] at h3
              exact ⟨by omega, by omega, h3.1.1, h3.1.2, h3.2, by simpa using h4, by omega⟩
  · intro h
    rw [if_neg (by simpa using h.fl), if_neg (by simpa using h.cn), if_neg, if_neg (by simp [h.loads]), if_neg (by simpa using h.room)]
    simp only [Bool.not_eq_false, Bool.and_eq_true, decide_eq_true_eq, List.all_eq_true]
    exact ⟨⟨h.deb, h.park⟩, h.car⟩
theorem fit_cars {b : BldT} (h : Fit ty26 b) : b.cars.length ≤ maxLen := h.2.2.2.2.2.2.2.1
theorem valid_b {b : BldT} (hl : b.cars.length ≤ maxLen) (h : F8 b = 0) : IsB b := (vld_zero b).1 (by rw [← valid_eq b hl]; exact h)
theorem rvalid_b {b : BldT} (hl : b.cars.length ≤ maxLen) (h : F9 b = 0) : IsB b := (vld_zero b).1 (by rw [← rvalid_eq b hl]; exact h)
end Go.Proofs.Ytghlpolodjlgjaa.Sp
