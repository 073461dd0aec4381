/- Own texts joined by pk.py. -/
import Derived.Test.YtngbcgnihbjfnaaGreatDoorJ2c53b97b
section
/- Which buildings are valid, for the program and the reference (own work). -/
namespace Go.Proofs.YtngbcgnihbjfnaaGreatDoor.Sp
open Go Sy
set_option linter.unusedVariables false
set_option linter.unusedSimpArgs false
abbrev CarT := Int × Int × Int × Int × Int × Int × Int × Int × Int
abbrev BldT := Int × Int × Int × Int × Nat × Nat × Nat × List CarT
abbrev BldT.cars (b : BldT) : List CarT := b.2.2.2.2.2.2.2
def tOk (n : Int) : Bool := decide (1 ≤ n) && decide (n ≤ 10000)
def carOk (fl : Int) (c : CarT) : Bool :=
  tOk c.1 && tOk c.2.1 && tOk c.2.2.1 && tOk c.2.2.2.2.1 && tOk c.2.2.2.2.2.1 && tOk c.2.2.2.2.2.2.1 && tOk c.2.2.2.2.2.2.2.1 && (decide (0 ≤ c.2.2.2.1) && decide (c.2.2.2.1 ≤ 10000)) &&
    decide (c.2.2.2.2.2.2.2.1 ≥ c.2.2.2.2.2.2.1) && (decide (0 ≤ c.2.2.2.2.2.2.2.2) && decide (c.2.2.2.2.2.2.2.2 ≤ fl - 1))
def loadsOk (b : BldT) : Bool := F81 b
def vld (b : BldT) : Int :=
  if ¬ (2 ≤ b.1 ∧ b.1 ≤ 32) then 10
  else if ¬ (1 ≤ b.cars.length ∧ b.cars.length ≤ 8) then 11
  else if ((decide (1 ≤ b.2.1) && decide (b.2.1 ≤ 16)) && (decide (1 ≤ b.2.2.2.1) && decide (b.2.2.2.1 ≤ 10000)) && b.cars.all (carOk b.1)) = false then 12
  else if loadsOk b = false then 13
  else if ¬ (18 * (b.cars.length : Int) + 24 ≤ b.2.2.1 ∧ b.2.2.1 ≤ 65536) then 14
  else 0
theorem in_eq (n lo hi : Int) : F92 (n, lo, hi) = (decide (lo ≤ n) && decide (n ≤ hi)) := rfl
theorem times_eq (c : CarT) (fl : Int) (h : 2 ≤ fl ∧ fl ≤ 32) : F80 (c, fl) = carOk fl c := by
  unfold F80 carOk tOk
  rw [within_eq _ _ _ (by simp [maxLen]), within_one, within_one, wrap_i64_of (by omega) (by omega)]
  simp only [List.all_cons, List.all_nil, Bool.and_true, Bool.and_assoc]
theorem rtimes_eq (b : BldT) (c : CarT) (h : 2 ≤ b.1 ∧ b.1 ≤ 32) : F93 (b, c) = carOk b.1 c := by
  unfold F93
  simp only [in_eq]
  rw [wrap_i64_of (x := b.1 - 1) (by omega) (by omega)]
  by_cases hs : c.2.2.2.1 < 0 ∨ c.2.2.2.1 > 10000
  · have h1 : (decide (c.2.2.2.1 < 0) || decide (c.2.2.2.1 > 10000)) = true := by simpa using hs
    rw [h1]
    have h2 : (decide (0 ≤ c.2.2.2.1) && decide (c.2.2.2.1 ≤ 10000)) = false := by
      simp only [Bool.and_eq_false_iff, decide_eq_false_iff_not]; omega
    unfold carOk
    rw [h2]
    simp
  · have h1 : (decide (c.2.2.2.1 < 0) || decide (c.2.2.2.1 > 10000)) = false := by simpa using hs
    have h2 : (decide (0 ≤ c.2.2.2.1) && decide (c.2.2.2.1 ≤ 10000)) = true := by
      simp only [Bool.and_eq_true, decide_eq_true_eq]; omega
    rw [h1]
    simp only [cond_false]
    let l : List Int := [c.1, c.2.1, c.2.2.1, c.2.2.2.2.1, c.2.2.2.2.2.1, c.2.2.2.2.2.2.1, c.2.2.2.2.2.2.2.1]
    have hR : R93_5 (l ++ [IntKind.i64.wrap (c.2.2.2.1 + 1)]) 0 = l.findSome? (fun n => if tOk n then none else some false) := by
      simp only [R93_5]
      rw [← findSome_range l]
      have := ret_row (step := st93_5) (k := l ++ [IntKind.i64.wrap (c.2.2.2.1 + 1)]) (fun i => (i : Int)) (fun i => (fun n => if tOk n then none else some false) (nthT l (i : Int))) 7 (fun i hi => ?_) (k' := l ++ [IntKind.i64.wrap (c.2.2.2.1 + 1)]) (y := (7 : Int)) ?_ (fuel := Nat.succ (mu93_5 (l ++ [IntKind.i64.wrap (c.2.2.2.1 + 1)]) 0)) ?_
      · exact this
      · have hn : nthT (l ++ [IntKind.i64.wrap (c.2.2.2.1 + 1)]) (i : Int) = nthT l (i : Int) := by
          rw [nthT_nat _ i (by simp [l]; omega), nthT_nat l i (by simpa [l] using hi), List.getElem_append_left]
        have h3 : decide ((i : Int) < 7) = true := by simp; omega
        simp only [st93_5, hn, h3, cond_true, in_eq]
        have h4 : (decide (1 ≤ nthT l (i : Int)) && decide (nthT l (i : Int) ≤ 10000)) = tOk (nthT l (i : Int)) := rfl
        rw [h4, wrap_succ hi (by simp [maxLen])]
        cases tOk (nthT l (i : Int)) with
        | true => exact ⟨_, rfl⟩
        | false => rfl
      · simp [st93_5]
      · simp [mu93_5]
    have hR' : R93_5 [c.1, c.2.1, c.2.2.1, c.2.2.2.2.1, c.2.2.2.2.2.1, c.2.2.2.2.2.2.1, c.2.2.2.2.2.2.2.1, IntKind.i64.wrap (c.2.2.2.1 + 1)] 0 = l.findSome? (fun n => if tOk n then none else some false) := hR
    rw [hR']
    have h5 := findSome_all l tOk
    have h6 : ∀ d : Bool, optR (l.findSome? (fun n => if tOk n then none else some false)) (fun y => y) d = (l.all tOk && d) := by
      intro d
      cases hq : l.findSome? (fun n => if tOk n then none else some false) with
      | none =>
        rw [hq, optR_none] at h5
        rw [optR_none, ← h5]; rfl
      | some r =>
        rw [hq, optR_some] at h5
        rw [optR_some]
        have : r = false := by
          obtain ⟨x, _, hx⟩ := List.exists_of_findSome?_eq_some hq
          split at hx
          · cases hx
          · simpa using hx.symm
        rw [← h5, this]; rfl
    rw [h6]
    unfold carOk
    rw [h2]
    simp only [l, List.all_cons, List.all_nil, Bool.and_true, Bool.and_assoc]
theorem valid_eq (b : BldT) (hl : b.cars.length ≤ maxLen) : F60 b = vld b := by
  unfold F60 vld
  simp only [within_one]
  by_cases h1 : 2 ≤ b.1 ∧ b.1 ≤ 32
  · have e1 : (!(decide (2 ≤ b.1) && decide (b.1 ≤ 32))) = false := by simp [h1]
    rw [e1, if_neg (by simpa using h1)]
    simp only [cond_false]
    by_cases h2 : 1 ≤ b.cars.length ∧ b.cars.length ≤ 8
    · have e2 : (!(decide ((1 : Int) ≤ (b.cars.length : Int)) && decide ((b.cars.length : Int) ≤ 8))) = false := by simp; omega
      rw [e2, if_neg (by simpa using h2)]
      simp only [cond_false]
      have e3 : ∀ b0 : Bool, (G60_7 (b.cars, (b.cars.length : Int), b) (b0, 0)).1 = (b0 && b.cars.all (carOk b.1)) := by
        intro b0
        unfold G60_7
        refine end_all b.cars (carOk b.1) hl (fun b' i => ?_) b0 (by simp [mu60_7])
        simp only [st60_7, times_eq _ _ h1]
      rw [e3]
      rw [wrap_i64_of (x := 18 * (b.cars.length : Int)) (by omega) (by omega), wrap_i64_of (by omega) (by omega)]
      cases h3 : ((decide (1 ≤ b.2.1) && decide (b.2.1 ≤ 16)) && (decide (1 ≤ b.2.2.2.1) && decide (b.2.2.2.1 ≤ 10000)) && b.cars.all (carOk b.1)) with
      | false => rfl
      | true =>
        simp only [Bool.not_true, cond_false, Bool.true_eq_false, if_false]
        show (bif !loadsOk b then _ else _) = _
        cases h4 : loadsOk b with
        | false => rfl
        | true =>
          simp only [Bool.not_true, cond_false, Bool.true_eq_false, if_false]
          by_cases h5 : 18 * (b.cars.length : Int) + 24 ≤ b.2.2.1 ∧ b.2.2.1 ≤ 65536
          · rw [if_neg (by simpa using h5)]; simp [h5]
          · rw [if_pos h5]
            have : (decide (18 * (b.cars.length : Int) + 24 ≤ b.2.2.1) && decide (b.2.2.1 ≤ 65536)) = false := by
              simp only [Bool.and_eq_false_iff, decide_eq_false_iff_not]; omega
            rw [this]; rfl
    · have e2 : (!(decide ((1 : Int) ≤ (b.cars.length : Int)) && decide ((b.cars.length : Int) ≤ 8))) = true := by
        simp only [Bool.not_eq_true', Bool.and_eq_false_iff, decide_eq_false_iff_not]; omega
      rw [e2, if_pos h2]; rfl
  · have e1 : (!(decide (2 ≤ b.1) && decide (b.1 ≤ 32))) = true := by
      simp only [Bool.not_eq_true', Bool.and_eq_false_iff, decide_eq_false_iff_not]; omega
    rw [e1, if_pos h1]; rfl
theorem rvalid_eq (b : BldT) (hl : b.cars.length ≤ maxLen) : F69 b = vld b := by
  unfold F69 vld
  simp only [in_eq]
  by_cases h1 : 2 ≤ b.1 ∧ b.1 ≤ 32
  · have e1 : (!(decide (2 ≤ b.1) && decide (b.1 ≤ 32))) = false := by simp [h1]
    rw [e1, if_neg (by simpa using h1)]
    simp only [cond_false]
    by_cases h2 : 1 ≤ b.cars.length ∧ b.cars.length ≤ 8
    · have e2 : (!(decide ((1 : Int) ≤ (b.cars.length : Int)) && decide ((b.cars.length : Int) ≤ 8))) = false := by simp; omega
      rw [e2, if_neg (by simpa using h2)]
      simp only [cond_false]
      have e3 : ∀ b0 : Bool, (G69_7 b (b0, 0)).1 = (b0 && b.cars.all (carOk b.1)) := by
        intro b0
        unfold G69_7
        refine end_all b.cars (carOk b.1) hl (fun b' i => ?_) b0 (by simp [mu69_7])
        simp only [st69_7, rtimes_eq _ _ h1]
      rw [e3]
      rw [wrap_i64_of (x := 18 * (b.cars.length : Int)) (by omega) (by omega), wrap_i64_of (by omega) (by omega)]
      cases h3 : ((decide (1 ≤ b.2.1) && decide (b.2.1 ≤ 16)) && (decide (1 ≤ b.2.2.2.1) && decide (b.2.2.2.1 ≤ 10000)) && b.cars.all (carOk b.1)) with
      | false => rfl
      | true =>
        simp only [Bool.not_true, cond_false, Bool.true_eq_false, if_false]
        show (bif !loadsOk b then _ else _) = _
        cases h4 : loadsOk b with
        | false => rfl
        | true =>
          simp only [Bool.not_true, cond_false, Bool.true_eq_false, if_false]
          by_cases h5 : 18 * (b.cars.length : Int) + 24 ≤ b.2.2.1 ∧ b.2.2.1 ≤ 65536
          · rw [if_neg (by simpa using h5)]; simp [h5]
          · rw [if_pos h5]
            have : (decide (18 * (b.cars.length : Int) + 24 ≤ b.2.2.1) && decide (b.2.2.1 ≤ 65536)) = false := by
              simp only [Bool.and_eq_false_iff, decide_eq_false_iff_not]; omega
            rw [this]; rfl
    · have e2 : (!(decide ((1 : Int) ≤ (b.cars.length : Int)) && decide ((b.cars.length : Int) ≤ 8))) = true := by
        simp only [Bool.not_eq_true', Bool.and_eq_false_iff, decide_eq_false_iff_not]; omega
      rw [e2, if_pos h2]; rfl
  · have e1 : (!(decide (2 ≤ b.1) && decide (b.1 ≤ 32))) = true := by
      simp only [Bool.not_eq_true', Bool.and_eq_false_iff, decide_eq_false_iff_not]; omega
    rw [e1, if_pos h1]; rfl
structure IsB (b : BldT) : Prop where
  fl : 2 ≤ b.1 ∧ b.1 ≤ 32
  cn : 1 ≤ b.cars.length ∧ b.cars.length ≤ 8
  deb : 1 ≤ b.2.1 ∧ b.2.1 ≤ 16
  park : 1 ≤ b.2.2.2.1 ∧ b.2.2.2.1 ≤ 10000
  car : ∀ c ∈ b.cars, carOk b.1 c = true
  loads : loadsOk b = true
  room : 18 * (b.cars.length : Int) + 24 ≤ b.2.2.1 ∧ b.2.2.1 ≤ 65536
theorem vld_zero (b : BldT) : vld b = 0 ↔ IsB b := by
  unfold vld
  constructor
  · intro h
    split at h
    · cases h
    · rename_i h1
      split at h
      · cases h
      · rename_i h2
        split at h
        · cases h
        · rename_i h3
          split at h
          · cases h
          · rename_i h4
            split at h
            · cases h
            · rename_i h5
              simp only [Bool.not_eq_false, Bool.and_eq_true, decide_eq_true_eq, List.all_eq_true] at h3
              exact ⟨by omega, by omega, h3.1.1, h3.1.2, h3.2, by simpa using h4, by omega⟩
  · intro h
    rw [if_neg (by simpa using h.fl), if_neg (by simpa using h.cn), if_neg, if_neg (by simp [h.loads]), if_neg (by simpa using h.room)]
    simp only [Bool.not_eq_false, Bool.and_eq_true, decide_eq_true_eq, List.all_eq_true]
    exact ⟨⟨h.deb, h.park⟩, h.car⟩
theorem fit_cars {b : BldT} (h : Fit ty27 b) : b.cars.length ≤ maxLen := h.2.2.2.2.2.2.2.1
theorem valid_b {b : BldT} (hl : b.cars.length ≤ maxLen) (h : F60 b = 0) : IsB b := (vld_zero b).1 (by rw [← valid_eq b hl]; exact h)
theorem rvalid_b {b : BldT} (hl : b.cars.length ≤ maxLen) (h : F69 b = 0) : IsB b := (vld_zero b).1 (by rw [← rvalid_eq b hl]; exact h)
end Go.Proofs.YtngbcgnihbjfnaaGreatDoor.Sp
end

section
/- The sample buildings, and bounds (own work). -/
namespace Go.Proofs.YtngbcgnihbjfnaaGreatDoor.Sp
open Go Sy
set_option linter.unusedVariables false
set_option linter.unusedSimpArgs false
def sampleCar (fl : Int) (i : Nat) : CarT := (100, 2, 6, 5, 4, 2, 3, 10, (i : Int) % fl)
def sampleB (fl : Int) (n : Nat) : BldT := (fl, 1, 4000, 30, 4591870180066957722, 4605380978949069210, 4607632778762754458, (List.range n).map (sampleCar fl))
theorem sample_eq (fl : Int) (n : Nat) (h0 : 1 ≤ fl) (hn : n ≤ 100) : F9 (fl, (n : Int)) = sampleB fl n := by
  unfold F9 G9_3
  have hs : ∀ i, i < n → ∃ k', st9_3 (fl, (n : Int)) ((fun i : Nat => ((i : Int), sampleB fl i)) i) = .next k' ((fun i : Nat => ((i : Int), sampleB fl i)) (i + 1)) := by
    intro i hi
    refine ⟨(fl, (n : Int)), ?_⟩
    have h1 : decide ((i : Int) < (n : Int)) = true := by simp; omega
    simp only [st9_3, sampleB, h1, cond_true, wrap_succ hi (show n ≤ maxLen by simp [maxLen]; omega), List.range_succ, List.map_append, List.map_cons, List.map_nil, sampleCar,
      Int.tmod_eq_emod_of_nonneg (Int.natCast_nonneg i)]
  have hb : st9_3 (fl, (n : Int)) ((fun i : Nat => ((i : Int), sampleB fl i)) n) = .brk (fl, (n : Int)) ((n : Int), sampleB fl n) := by
    simp [st9_3]
  have := (end_row_brk _ n hs hb (fuel := Nat.succ (mu9_3 (fl, (n : Int)) (0, sampleB fl 0))) (by simp [mu9_3])).1
  exact congrArg Prod.snd this
theorem sample_cars (fl : Int) (n : Nat) : (sampleB fl n).cars = (List.range n).map (sampleCar fl) := rfl
theorem sample_len (fl : Int) (n : Nat) : (sampleB fl n).cars.length = n := by simp [sample_cars]
theorem sample_isB (fl : Int) (n : Nat) (h : 2 ≤ fl ∧ fl ≤ 32) (hn : 1 ≤ n ∧ n ≤ 8) : IsB (sampleB fl n) where
  fl := h
  cn := by rw [sample_len]; exact hn
  deb := by show (1 : Int) ≤ 1 ∧ (1 : Int) ≤ 16; decide
  park := by show (1 : Int) ≤ 30 ∧ (30 : Int) ≤ 10000; decide
  car := by
    intro c hc
    rw [sample_cars, List.mem_map] at hc
    obtain ⟨i, hi, rfl⟩ := hc
    have h1 : 0 ≤ (i : Int) % fl := Int.emod_nonneg _ (by omega)
    have h2 : (i : Int) % fl < fl := Int.emod_lt_of_pos _ (by omega)
    have h3 : (i : Int) % fl ≤ fl - 1 := by omega
    simp only [carOk, sampleCar, tOk, sampleB]
    simp [h1, h3]
  loads := by simp only [loadsOk, sampleB]; kernel_rfl
  room := by rw [sample_len]; simp only [sampleB]; omega
end Go.Proofs.YtngbcgnihbjfnaaGreatDoor.Sp
end

section
/- What TrailingZeros32 comes to (own work). -/
namespace Go.Proofs.YtngbcgnihbjfnaaGreatDoor.Sp
open Go Sy
set_option linter.unusedVariables false
set_option linter.unusedSimpArgs false
theorem tabB_map : tabB = Lib.deBruijn32tab.map (fun (n : Nat) => (n : Int)) := rfl
theorem tabB_at (j : Nat) : tabB.getD j 0 = ((Lib.deBruijn32tab.getD j 0 : Nat) : Int) := by
  rw [tabB_map]
  simp only [List.getD_eq_getElem?_getD, List.getElem?_map]
  cases Lib.deBruijn32tab[j]? <;> rfl
theorem tz_nat (n : Nat) (h0 : n ≠ 0) (hn : n < 4294967296) : F107 (n : Int) = ((Lib.ctz 32 n : Nat) : Int) ∧ Lib.ctz 32 n < 32 := by
  obtain ⟨hl, hc⟩ := Lib.lowest_bit 32 n h0 hn
  generalize Lib.ctz 32 n = c at hl hc ⊢
  refine ⟨?_, hc⟩
  obtain ⟨d1, d2⟩ := Lib.deBruijn32_at c hc
  have hw : IntKind.u32.wrap (0 - (n : Int)) = ((2 ^ 32 - n : Nat) : Int) := by rw [IntKind.wrap_u32]; omega
  have ha : and32 (n : Int) (IntKind.u32.wrap (0 - (n : Int))) = ((2 ^ c : Nat) : Int) := by rw [hw, and_nat n _ hn (by omega), hl]
  have he : ((n : Int) == 0) = false := by simp; omega
  unfold F107
  have ha' : IntKind.u32.wrap ((BitVec.ofInt IntKind.u32.bits (n : Int) &&& BitVec.ofInt IntKind.u32.bits (IntKind.u32.wrap (0 - (n : Int)))).toNat : Int) = ((2 ^ c : Nat) : Int) := ha
  rw [he, cond_false, ha', d27]
  have hi : IntKind.u32.wrap (((2 ^ c : Nat) : Int) * 125613361) / 134217728 = ((2 ^ c * 125613361 % 4294967296 / 134217728 : Nat) : Int) := by
    generalize 2 ^ c = q
    rw [IntKind.wrap_u32]
    omega
  rw [hi]
  generalize 2 ^ c * 125613361 % 4294967296 / 134217728 = j at d1 d2 ⊢
  have : nthT tabB (j : Int) = (c : Int) := by
    have := tabB_at j
    rw [d2] at this
    unfold nthT
    rw [Int.toNat_natCast, show (default : Int) = 0 from rfl, this]
  rw [this]
  exact wrap_i64_of (by omega) (by omega)
theorem tz_zero : F107 0 = 32 := rfl
theorem tz_spec {x : Int} (hx : W x) (hne : x ≠ 0) : ∃ k : Nat, k < 32 ∧ F107 x = (k : Int) ∧ bit x k = true ∧ ∀ i, i < k → bit x i = false := by
  obtain ⟨n, rfl⟩ := Int.eq_ofNat_of_zero_le hx.1
  have hn : n < 4294967296 := by have := hx.2; omega
  have h0 : n ≠ 0 := by omega
  obtain ⟨h1, h2⟩ := tz_nat n h0 hn
  refine ⟨_, h2, h1, ?_⟩
  have hc : Lib.ctz 32 n = Lib.ctzFrom 32 n := by unfold Lib.ctz; rw [if_neg h0]
  obtain ⟨q, hq, _⟩ := Lib.ctzFrom_spec 32 n (by omega) hn
  rw [← hc] at hq
  generalize Lib.ctz 32 n = c at hq ⊢
  simp only [bit, Int.toNat_natCast]
  constructor
  · rw [hq, Nat.testBit_two_pow_mul]
    simp [Nat.testBit_zero]
  · intro i hi
    rw [hq, Nat.testBit_two_pow_mul]
    have : ¬ c ≤ i := by omega
    simp [this]
theorem tz_nonneg {x : Int} (hx : W x) : 0 ≤ F107 x := by
  by_cases h : x = 0
  · subst h; rw [tz_zero]; omega
  · obtain ⟨k, _, h2, _⟩ := tz_spec hx h; omega
end Go.Proofs.YtngbcgnihbjfnaaGreatDoor.Sp
end

section
/- Sets of floors: the next one above, the next one below (own work). -/
namespace Go.Proofs.YtngbcgnihbjfnaaGreatDoor.Sp
open Go Sy
set_option linter.unusedVariables false
set_option linter.unusedSimpArgs false
abbrev allm (n : Int) : Int := IntKind.u32.wrap (shl32 1 n - 1)
theorem allm_val : ∀ n : Nat, n < 33 → allm (n : Int) = ((2 ^ n - 1 : Nat) : Int) := by decide +kernel
theorem bit_allm (n i : Nat) (hn : n ≤ 32) : bit (allm (n : Int)) i = decide (i < n) := by
  rw [allm_val n (by omega)]
  simp [bit, Nat.testBit_two_pow_sub_one]
theorem W_allm (n : Int) : W (allm n) := W_wrap _
theorem bit1 (i : Nat) (hi : i < 32) : bit 1 i = decide (i = 0) := by
  have := bit_one 0 i hi
  rwa [show shl32 1 ((0 : Nat) : Int) = 1 from rfl] at this
theorem W.one : W 1 := by unfold W; omega
theorem ne_zero_of {x : Int} {i : Nat} (h : bit x i = true) : x ≠ 0 := by
  intro h0; subst h0; rw [bit_zero] at h; cases h
theorem bit_lt {x : Int} (hx : W x) {i : Nat} (h : bit x i = true) : i < 32 := by
  rcases Nat.lt_or_ge i 32 with hi | hi
  · exact hi
  · rw [bit_hi hx hi] at h; cases h
def AboveS (s : Int) (f : Nat) (d : Int) : Prop := (d = 0 ∧ ∀ i, f < i → bit s i = false) ∨ ∃ k, f < k ∧ bit s k = true ∧ (∀ i, f < i → i < k → bit s i = false) ∧ d = (k : Int) - f
def BelowS (s : Int) (f : Nat) (d : Int) : Prop := (d = 0 ∧ ∀ i, i < f → bit s i = false) ∨ ∃ k, k < f ∧ bit s k = true ∧ (∀ i, k < i → i < f → bit s i = false) ∧ d = (f : Int) - k
theorem AboveS.uniq {s : Int} {f : Nat} {d e : Int} (h : AboveS s f d) (h' : AboveS s f e) : d = e := by
  rcases h with ⟨h1, h2⟩ | ⟨k, h1, h2, h3, h4⟩ <;> rcases h' with ⟨g1, g2⟩ | ⟨j, g1, g2, g3, g4⟩
  · omega
  · rw [h2 j g1] at g2; cases g2
  · rw [g2 k h1] at h2; cases h2
  · rcases Nat.lt_trichotomy k j with h | h | h
    · rw [g3 k h1 h] at h2; cases h2
    · omega
    · rw [h3 j g1 h] at g2; cases g2
theorem BelowS.uniq {s : Int} {f : Nat} {d e : Int} (h : BelowS s f d) (h' : BelowS s f e) : d = e := by
  rcases h with ⟨h1, h2⟩ | ⟨k, h1, h2, h3, h4⟩ <;> rcases h' with ⟨g1, g2⟩ | ⟨j, g1, g2, g3, g4⟩
  · omega
  · rw [h2 j g1] at g2; cases g2
  · rw [g2 k h1] at h2; cases h2
  · rcases Nat.lt_trichotomy k j with h | h | h
    · rw [h3 j h g1] at g2; cases g2
    · omega
    · rw [g3 k h h1] at h2; cases h2
theorem AboveS.nn {s : Int} {f : Nat} {d : Int} (h : AboveS s f d) : 0 ≤ d := by rcases h with ⟨h1, _⟩ | ⟨k, h1, _, _, h4⟩ <;> omega
theorem BelowS.nn {s : Int} {f : Nat} {d : Int} (h : BelowS s f d) : 0 ≤ d := by rcases h with ⟨h1, _⟩ | ⟨k, h1, _, _, h4⟩ <;> omega
theorem AboveS.none {s : Int} {f : Nat} {d : Int} (h : AboveS s f d) : ¬ 0 < d ↔ ∀ i, f < i → bit s i = false := by
  rcases h with ⟨h1, h2⟩ | ⟨k, h1, h2, _, h4⟩
  · exact ⟨fun _ => h2, fun _ => by omega⟩
  · refine ⟨fun h => by omega, fun h => ?_⟩
    rw [h k h1] at h2; cases h2
theorem BelowS.none {s : Int} {f : Nat} {d : Int} (h : BelowS s f d) : ¬ 0 < d ↔ ∀ i, i < f → bit s i = false := by
  rcases h with ⟨h1, h2⟩ | ⟨k, h1, h2, _, h4⟩
  · exact ⟨fun _ => h2, fun _ => by omega⟩
  · refine ⟨fun h => by omega, fun h => ?_⟩
    rw [h k h1] at h2; cases h2
theorem AboveS.le {s : Int} (hs : W s) {f : Nat} {d : Int} (h : AboveS s f d) : d ≤ 32 := by
  rcases h with ⟨h1, h2⟩ | ⟨k, h1, h2, _, h4⟩
  · omega
  · have := bit_lt hs h2; omega
theorem above_tz {s : Int} (hs : W s) (f : Nat) (hf : f < 32) :
    (shr32 (shr32 s (f : Int)) 1 = 0 → ∀ i, f < i → bit s i = false) ∧ (shr32 (shr32 s (f : Int)) 1 ≠ 0 → AboveS s f (1 + F107 (shr32 (shr32 s (f : Int)) 1)) ∧ 0 ≤ F107 (shr32 (shr32 s (f : Int)) 1) ∧ F107 (shr32 (shr32 s (f : Int)) 1) < 32) := by
  have hw : W (shr32 s (f : Int)) := W_shr hs _ (by omega)
  have hv : W (shr32 (shr32 s (f : Int)) 1) := W_shr hw _ (by omega)
  have hb : ∀ i, bit (shr32 (shr32 s (f : Int)) 1) i = bit s (f + (1 + i)) := fun i => by
    have := bit_shr hw 1 i
    rw [show (((1 : Nat) : Int)) = 1 from rfl] at this
    rw [this, bit_shr hs]
  constructor
  · intro h0 i hi
    have := hb (i - f - 1)
    rw [h0, bit_zero, show f + (1 + (i - f - 1)) = i by omega] at this
    exact this.symm
  · intro hne
    obtain ⟨k, hk, h1, h2, h3⟩ := tz_spec hv hne
    rw [h1]
    refine ⟨.inr ⟨f + (1 + k), by omega, by rw [← hb]; exact h2, fun i h4 h5 => ?_, by omega⟩, by omega, by omega⟩
    have := h3 (i - f - 1) (by omega)
    rw [hb, show f + (1 + (i - f - 1)) = i by omega] at this
    exact this
theorem below_len {s : Int} (hs : W s) (f : Nat) (hf : f < 32) :
    (and32 s (allm (f : Int)) = 0 → ∀ i, i < f → bit s i = false) ∧ (and32 s (allm (f : Int)) ≠ 0 → BelowS s f ((f : Int) - F108 (and32 s (allm (f : Int))) + 1) ∧ 0 ≤ F108 (and32 s (allm (f : Int))) ∧ F108 (and32 s (allm (f : Int))) ≤ 32) := by
  have hv : W (and32 s (allm (f : Int))) := W_and _ _
  have hb : ∀ i, i < 32 → bit (and32 s (allm (f : Int))) i = (bit s i && decide (i < f)) := fun i hi => by
    rw [bit_and hs.1 (W_allm _).1 i hi, bit_allm f i (by omega)]
  constructor
  · intro h0 i hi
    have := hb i (by omega)
    rw [h0, bit_zero] at this
    simpa [hi] using this.symm
  · intro hne
    obtain ⟨k, hk, h1, h2, h3⟩ := len_spec hv hne
    rw [h1]
    rw [hb k hk] at h2
    simp only [Bool.and_eq_true, decide_eq_true_eq] at h2
    refine ⟨.inr ⟨k, h2.2, h2.1, fun i h4 h5 => ?_, by omega⟩, by omega, by omega⟩
    have := h3 i h4
    rw [hb i (by omega)] at this
    simpa [h5] using this
theorem first_of (p : Nat → Bool) : (∀ i, p i = false) ∨ ∃ k, p k = true ∧ ∀ i, i < k → p i = false := by
  by_cases h : ∃ k, p k = true
  · right
    obtain ⟨k, hk⟩ := h
    induction k using Nat.strongRecOn with
    | _ k ih =>
      by_cases h2 : ∃ i, i < k ∧ p i = true
      · obtain ⟨i, h3, h4⟩ := h2; exact ih i h3 h4
      · exact ⟨k, hk, fun i hi => by cases hp : p i with | false => rfl | true => exact absurd ⟨i, hi, hp⟩ h2⟩
  · left
    intro i
    cases hp : p i with | false => rfl | true => exact absurd ⟨i, hp⟩ h
theorem and_shl {a : Int} (ha : W a) (f : Nat) (hf : f < 32) : and32 a (shl32 1 (f : Int)) = bif bit a f then shl32 1 (f : Int) else 0 := by
  refine W.ext (W_and _ _) (by cases bit a f; exact W.zero; exact W_shl _ _) fun i hi => ?_
  rw [bit_and ha.1 (W_shl _ _).1 i hi, bit_one f i hi]
  by_cases h : i = f
  · subst h; cases hb : bit a i <;> simp [hb, bit_zero, bit_one i i hi]
  · cases hb : bit a f <;> simp [h, bit_zero, bit_one f i hi]
end Go.Proofs.YtngbcgnihbjfnaaGreatDoor.Sp
end

section
/- Buildings and sets of floors together; what the control of a car always meets (own work). -/
namespace Go.Proofs.YtngbcgnihbjfnaaGreatDoor.Sp
open Go Sy
abbrev SweepT := Int × Int
abbrev DoorT := Int × Int × Int × Bool × Int
abbrev MotT := Int × Int × Int
abbrev CarS := SweepT × DoorT × MotT × Int × Int × Int × Bool
abbrev FbT := Int × Bool × Int × Bool
abbrev CtlT := BldT × Int × CarS × FbT × Int
def CtlOk (c : CtlT) : Prop := 0 ≤ c.1.1 ∧ 0 ≤ c.2.1 ∧ c.2.1 < (c.1.2.2.2.2.2.2.2.length : Int) ∧ 0 ≤ c.2.2.2.1.1
def CtlEq (c d : CtlT) : Prop := d.1 = c.1 ∧ d.2.1 = c.2.1 ∧ d.2.2.2.1 = c.2.2.2.1
theorem CtlEq.ok {c d : CtlT} (h : CtlEq c d) (hc : CtlOk c) : CtlOk d := by
  obtain ⟨h1, h2, h3⟩ := h
  unfold CtlOk at *
  rw [h1, h2, h3]; exact hc
theorem CtlEq.trans {c d e : CtlT} (h : CtlEq c d) (k : CtlEq d e) : CtlEq c e := ⟨k.1.trans h.1, k.2.1.trans h.2.1, k.2.2.trans h.2.2⟩
end Go.Proofs.YtngbcgnihbjfnaaGreatDoor.Sp
end

section
/- Contracts of functions, by the evaluator (own program gen.py): overlaylaw15.Building, overlayplay.New, overlayplay.in, overlayplay.Report, overlayref12.in, overlayref13.floor, overlayref13.target, overlayref15.IsFeedback, overlayref13.later, overlayref12.Late, overlayref13.Late, overlayref12.to, overlayref12.more, overlayref14.Move, overlayplay.arrived, rig.within, rig.Report, door.isCount, motion.beside, newcar.isFeedback, <*newcar.control>.press, <*newcar.control>.config, door.more, door.enter, park.Move, door.Late, motion.Late, rig.New, rig.next, rig.arrive, rig.aim, rig.door. -/
set_option linter.unusedVariables false
set_option linter.unusedSimpArgs false
set_option maxRecDepth 100000
namespace Go.Proofs.YtngbcgnihbjfnaaGreatDoor.Sp
open Go Go.RowKit Sy
def in4_3 (k : (Int)) (x : (Int × Int × Int × Int × Int × Nat × Nat × Nat × List CarT)) : Prop := (0 : Int) ≤ x.1 ∧ x.2.1 ≠ 0 ∧ x.2.2.2.2.2.2.2.2.length ≤ 100
def mu4_3 (k : (Int)) (x : (Int × Int × Int × Int × Int × Nat × Nat × Nat × List CarT)) : Nat := (((x.2.2.2.2.2.2.2.2).length : Int) - x.1).toNat
def K4_3_1 (k : (Int)) (x : (Int × Int × Int × Int × Int × Nat × Nat × Nat × List CarT)) :=
  (setE ty53 x.2.2.2.2.2.2.2.2 x.1 ((Sp.nthT x.2.2.2.2.2.2.2.2 x.1).1, (Sp.nthT x.2.2.2.2.2.2.2.2 x.1).2.1, (Sp.nthT x.2.2.2.2.2.2.2.2 x.1).2.2.1, (Sp.nthT x.2.2.2.2.2.2.2.2 x.1).2.2.2.1, (IntKind.i64.wrap ((1 : Int) + (IntKind.i64.wrap (Int.tmod k (3 : Int))))), (Sp.nthT x.2.2.2.2.2.2.2.2 x.1).2.2.2.2.2))
def K4_3_2 (k : (Int)) (x : (Int × Int × Int × Int × Int × Nat × Nat × Nat × List CarT)) :=
  (setE ty53 (Sp.K4_3_1 k x) x.1 ((Sp.nthT (Sp.K4_3_1 k x) x.1).1, (Sp.nthT (Sp.K4_3_1 k x) x.1).2.1, (Sp.nthT (Sp.K4_3_1 k x) x.1).2.2.1, (Sp.nthT (Sp.K4_3_1 k x) x.1).2.2.2.1, (Sp.nthT (Sp.K4_3_1 k x) x.1).2.2.2.2.1, (IntKind.i64.wrap ((1 : Int) + (IntKind.i64.wrap (Int.tmod (IntKind.u8.wrap (Int.tdiv k (3 : Int))) (3 : Int))))), (Sp.nthT (Sp.K4_3_1 k x) x.1).2.2.2.2.2.2))
def K4_3_3 (k : (Int)) (x : (Int × Int × Int × Int × Int × Nat × Nat × Nat × List CarT)) :=
  (setE ty53 (Sp.K4_3_2 k x) x.1 ((Sp.nthT (Sp.K4_3_2 k x) x.1).1, (Sp.nthT (Sp.K4_3_2 k x) x.1).2.1, (Sp.nthT (Sp.K4_3_2 k x) x.1).2.2.1, (Sp.nthT (Sp.K4_3_2 k x) x.1).2.2.2.1, (Sp.nthT (Sp.K4_3_2 k x) x.1).2.2.2.2.1, (Sp.nthT (Sp.K4_3_2 k x) x.1).2.2.2.2.2.1, (IntKind.i64.wrap ((1 : Int) + (IntKind.i64.wrap (Int.tmod (IntKind.u8.wrap (Int.tdiv k (9 : Int))) (3 : Int))))), (Sp.nthT (Sp.K4_3_2 k x) x.1).2.2.2.2.2.2.2))
def K4_3_4 (k : (Int)) (x : (Int × Int × Int × Int × Int × Nat × Nat × Nat × List CarT)) :=
  (setE ty53 (Sp.K4_3_3 k x) x.1 ((Sp.nthT (Sp.K4_3_3 k x) x.1).1, (Sp.nthT (Sp.K4_3_3 k x) x.1).2.1, (Sp.nthT (Sp.K4_3_3 k x) x.1).2.2.1, (Sp.nthT (Sp.K4_3_3 k x) x.1).2.2.2.1, (Sp.nthT (Sp.K4_3_3 k x) x.1).2.2.2.2.1, (Sp.nthT (Sp.K4_3_3 k x) x.1).2.2.2.2.2.1, (Sp.nthT (Sp.K4_3_3 k x) x.1).2.2.2.2.2.2.1, (IntKind.i64.wrap ((Sp.nthT (Sp.K4_3_3 k x) x.1).2.2.2.2.2.2.1 + (IntKind.i64.wrap (Int.tmod (IntKind.u8.wrap (Int.tdiv k (27 : Int))) (5 : Int))))), (Sp.nthT (Sp.K4_3_3 k x) x.1).2.2.2.2.2.2.2.2))
def K4_3_5 (k : (Int)) (x : (Int × Int × Int × Int × Int × Nat × Nat × Nat × List CarT)) :=
  (setE ty53 (Sp.K4_3_4 k x) x.1 ((Sp.nthT (Sp.K4_3_4 k x) x.1).1, (Sp.nthT (Sp.K4_3_4 k x) x.1).2.1, (Sp.nthT (Sp.K4_3_4 k x) x.1).2.2.1, (Sp.nthT (Sp.K4_3_4 k x) x.1).2.2.2.1, (Sp.nthT (Sp.K4_3_4 k x) x.1).2.2.2.2.1, (Sp.nthT (Sp.K4_3_4 k x) x.1).2.2.2.2.2.1, (Sp.nthT (Sp.K4_3_4 k x) x.1).2.2.2.2.2.2.1, (Sp.nthT (Sp.K4_3_4 k x) x.1).2.2.2.2.2.2.2.1, (Int.tmod (IntKind.i64.wrap (x.1 + (IntKind.i64.wrap k))) x.2.1)))
def st4_3 (k : (Int)) (x : (Int × Int × Int × Int × Int × Nat × Nat × Nat × List CarT)) : BOut (Int) (Int × Int × Int × Int × Int × Nat × Nat × Nat × List CarT) BldT :=
  bif (decide (x.1 < ((x.2.2.2.2.2.2.2.2).length : Int))) then
    BOut.next k ((IntKind.i64.wrap (x.1 + (1 : Int))), x.2.1, x.2.2.1, x.2.2.2.1, x.2.2.2.2.1, x.2.2.2.2.2.1, x.2.2.2.2.2.2.1, x.2.2.2.2.2.2.2.1, (Sp.K4_3_5 k x))
  else
    BOut.brk k x
def G4_3 (k : (Int)) (x : (Int × Int × Int × Int × Int × Nat × Nat × Nat × List CarT)) : (Int × Int × Int × Int × Int × Nat × Nat × Nat × List CarT) := endOf st4_3 k (Nat.succ (mu4_3 k x)) x
def F4 (x : Int × Int) : Int × Int × Int × Int × Nat × Nat × Nat × List CarT :=
  ((Sp.G4_3 x.2 ((0 : Int), (Sp.F9 ((IntKind.i64.wrap ((2 : Int) + (IntKind.i64.wrap (Int.tmod x.1 (5 : Int))))), (IntKind.i64.wrap ((1 : Int) + (IntKind.i64.wrap (Int.tmod (IntKind.u8.wrap (Int.tdiv x.1 (5 : Int))) (3 : Int))))))))).2.1, (Sp.G4_3 x.2 ((0 : Int), (Sp.F9 ((IntKind.i64.wrap ((2 : Int) + (IntKind.i64.wrap (Int.tmod x.1 (5 : Int))))), (IntKind.i64.wrap ((1 : Int) + (IntKind.i64.wrap (Int.tmod (IntKind.u8.wrap (Int.tdiv x.1 (5 : Int))) (3 : Int))))))))).2.2.1, (Sp.G4_3 x.2 ((0 : Int), (Sp.F9 ((IntKind.i64.wrap ((2 : Int) + (IntKind.i64.wrap (Int.tmod x.1 (5 : Int))))), (IntKind.i64.wrap ((1 : Int) + (IntKind.i64.wrap (Int.tmod (IntKind.u8.wrap (Int.tdiv x.1 (5 : Int))) (3 : Int))))))))).2.2.2.1, (IntKind.i64.wrap ((1 : Int) + (IntKind.i64.wrap (Int.tmod x.2 (7 : Int))))), (Sp.G4_3 x.2 ((0 : Int), (Sp.F9 ((IntKind.i64.wrap ((2 : Int) + (IntKind.i64.wrap (Int.tmod x.1 (5 : Int))))), (IntKind.i64.wrap ((1 : Int) + (IntKind.i64.wrap (Int.tmod (IntKind.u8.wrap (Int.tdiv x.1 (5 : Int))) (3 : Int))))))))).2.2.2.2.2)
def pre4 (x : Int × Int) : Prop := (0 ≤ x.1 ∧ x.1 ≤ 255) ∧ 0 ≤ x.2 ∧ x.2 ≤ 255
def F10 (x : Int) : Int × Int × Int × Int × Int × Int :=
  (x, x, (0 : Int), (2 : Int), (0 : Int), (0 : Int))
def F31 (x : Int × Int × Int) : Bool :=
  ((decide (x.1 ≥ x.2.1)) && (decide (x.1 ≤ x.2.2)))
def F19 (x : (Int × Int × Int × Int × Int × Int) × Bool) : Int × Bool × Int × Bool :=
  (x.1.1, (x.1.2.2.1 == (0 : Int)), x.1.2.2.2.1, x.2)
def F78 (x : Int) : Bool :=
  ((decide (x ≥ (0 : Int))) && (decide (x ≤ (1000000 : Int))))
def F48 (x : Int × Int) : Bool :=
  ((decide (x.2 ≥ (0 : Int))) && (decide (x.2 < x.1)))
def F49 (x : Int × Int × Int) : Int :=
  bif (x.1 == (1 : Int)) then
    (IntKind.i64.wrap (x.2.2 + (1 : Int)))
  else
    (IntKind.i64.wrap (x.2.2 - (1 : Int)))
def F33 (x : BldT × Int × Bool × Int × Bool) : Bool :=
  ((((decide (x.2.1 ≥ (0 : Int))) && (decide (x.2.1 < x.1.1))) && (decide (x.2.2.2.1 ≥ (0 : Int)))) && (decide (x.2.2.2.1 ≤ (2 : Int))))
def F50 (x : Int × Int × Int) : Int × Int × Int :=
  bif ((decide (x.2.1 ≥ (0 : Int))) && (decide (x.2.1 < (1000000 : Int)))) then
    (x.1, (IntKind.i64.wrap (x.2.1 + (1 : Int))), x.2.2)
  else
    x
def F51 (x : CarT × Int × Int × Int × Bool × Int) : Bool :=
  (((x.2.1 == (1 : Int)) || (x.2.1 == (3 : Int))) && (decide (x.2.2.1 > x.1.2.2.2.2.2.1)))
def F52 (x : CarT × Int × Int × Int) : Bool :=
  (decide (x.2.2.1 > x.1.2.2.2.2.1))
def F57 (x : (Int × Int × Int × Bool × Int) × Int) : Int × Int × Int × Bool × Int :=
  (x.2, (0 : Int), x.1.2.2)
def F58 (x : Int) : Int :=
  (min (IntKind.i64.wrap (x + (1 : Int))) (1000000 : Int))
def F55 (x : BldT × Int × Int × Int) : Int :=
  bif (((((((Sp.F69 x.1) != (0 : Int)) || (decide (x.2.1 < (0 : Int)))) || (decide (x.2.1 ≥ ((x.1.2.2.2.2.2.2.2).length : Int)))) || (decide (x.2.2.2 < (0 : Int)))) || (decide (x.2.2.2 ≥ x.1.1))) || (decide (x.2.2.1 < x.1.2.2.2.1))) then
    (0 : Int)
  else
    bif (decide ((Sp.nthT x.1.2.2.2.2.2.2.2 x.2.1).2.2.2.2.2.2.2.2 > x.2.2.2)) then
      (1 : Int)
    else
      bif (decide ((Sp.nthT x.1.2.2.2.2.2.2.2 x.2.1).2.2.2.2.2.2.2.2 < x.2.2.2)) then
        (2 : Int)
      else
        (0 : Int)
def F38 (x : Int × Int × Int × Int × Int × Int) : Int × Int × Int × Int × Int × Int :=
  bif (x.2.2.1 == (0 : Int)) then
    (x.2.1, x.2)
  else
    x
def F21 (x : Int × Int × Int) : Bool :=
  ((decide (x.1 ≥ x.2.1)) && (decide (x.1 ≤ x.2.2)))
def F14 (x : (Int × Int × Int × Int × Int × Int) × Bool) : Int × Bool × Int × Bool :=
  (x.1.1, (x.1.2.2.1 == (0 : Int)), x.1.2.2.2.1, x.2)
def F82 (x : Int) : Bool :=
  ((decide (x ≥ (0 : Int))) && (decide (x ≤ (1000000 : Int))))
def F83 (x : Int × Int × Int) : Int × Bool :=
  bif ((x.2.2 != (1 : Int)) && (x.2.2 != (2 : Int))) then
    ((0 : Int), false)
  else
    ((IntKind.i64.wrap (x.2.1 + (Sp.nthT [(0 : Int), (1 : Int), (-1 : Int)] x.2.2))), ((decide ((IntKind.i64.wrap (x.2.1 + (Sp.nthT [(0 : Int), (1 : Int), (-1 : Int)] x.2.2))) ≥ (0 : Int))) && (decide ((IntKind.i64.wrap (x.2.1 + (Sp.nthT [(0 : Int), (1 : Int), (-1 : Int)] x.2.2))) < x.1))))
def F23 (x : BldT × Int × Bool × Int × Bool) : Bool :=
  ((((decide (x.2.1 ≥ (0 : Int))) && (decide (x.2.1 < x.1.1))) && (decide (x.2.2.2.1 ≥ (0 : Int)))) && (decide (x.2.2.2.1 ≤ (2 : Int))))
def F40 (x : Int × BldT × Int × CarS × FbT × Int) : (Unit) × (BldT × Int × CarS × FbT × Int) :=
  bif (x.2.2.2.1.2.1.1 != (0 : Int)) then
    ((), (x.2.1, x.2.2.1, (x.2.2.2.1.1, x.2.2.2.1.2.1, x.2.2.2.1.2.2.1, (IntKind.u32.wrap ((BitVec.ofInt IntKind.u32.bits x.2.2.2.1.2.2.2.1 ||| BitVec.ofInt IntKind.u32.bits (IntKind.u32.wrap ((BitVec.ofInt IntKind.u32.bits (IntKind.u32.wrap ((BitVec.ofInt IntKind.u32.bits x.1 &&& BitVec.ofInt IntKind.u32.bits (IntKind.u32.wrap ((IntKind.u32.wrap ((1 : Int) * 2 ^ (min (x.2.1.1).toNat IntKind.u32.bits))) - (1 : Int)))).toNat : Int)) &&& ~~~ BitVec.ofInt IntKind.u32.bits (IntKind.u32.wrap ((1 : Int) * 2 ^ (min (x.2.2.2.2.1.1).toNat IntKind.u32.bits)))).toNat : Int))).toNat : Int)), x.2.2.2.1.2.2.2.2), x.2.2.2.2))
  else
    ((), (x.2.1, x.2.2.1, (x.2.2.2.1.1, x.2.2.2.1.2.1, x.2.2.2.1.2.2.1, (IntKind.u32.wrap ((BitVec.ofInt IntKind.u32.bits x.2.2.2.1.2.2.2.1 ||| BitVec.ofInt IntKind.u32.bits (IntKind.u32.wrap ((BitVec.ofInt IntKind.u32.bits x.1 &&& BitVec.ofInt IntKind.u32.bits (IntKind.u32.wrap ((IntKind.u32.wrap ((1 : Int) * 2 ^ (min (x.2.1.1).toNat IntKind.u32.bits))) - (1 : Int)))).toNat : Int))).toNat : Int)), x.2.2.2.1.2.2.2.2), x.2.2.2.2))
def pre40 (x : Int × BldT × Int × CarS × FbT × Int) : Prop := Sp.CtlOk x.2
def F26 (x : BldT × Int × CarS × FbT × Int) : CarT × (BldT × Int × CarS × FbT × Int) :=
  ((Sp.nthT x.1.2.2.2.2.2.2.2 x.2.1), x)
def pre26 (x : BldT × Int × CarS × FbT × Int) : Prop := Sp.CtlOk x
def F89 (x : Int) : Int :=
  (min (IntKind.i64.wrap (x + (1 : Int))) (1000000 : Int))
def F86 (x : (Int × Int × Int × Bool × Int) × Int) : Int × Int × Int × Bool × Int :=
  (x.2, (0 : Int), x.1.2.2)
def F68 (x : BldT × Int × Int × Int) : Int :=
  bif (((((((Sp.F60 x.1) != (0 : Int)) || (decide (x.2.1 < (0 : Int)))) || (decide (x.2.1 ≥ ((x.1.2.2.2.2.2.2.2).length : Int)))) || (decide (x.2.2.2 < (0 : Int)))) || (decide (x.2.2.2 ≥ x.1.1))) || (decide (x.2.2.1 < x.1.2.2.2.1))) then
    (0 : Int)
  else
    bif (decide ((Sp.nthT x.1.2.2.2.2.2.2.2 x.2.1).2.2.2.2.2.2.2.2 > x.2.2.2)) then
      (1 : Int)
    else
      bif (decide ((Sp.nthT x.1.2.2.2.2.2.2.2 x.2.1).2.2.2.2.2.2.2.2 < x.2.2.2)) then
        (2 : Int)
      else
        (0 : Int)
def F44 (x : CarT × Int × Int × Int × Bool × Int) : Bool :=
  (((x.2.1 == (1 : Int)) || (x.2.1 == (3 : Int))) && (decide (x.2.2.1 > x.1.2.2.2.2.2.1)))
def F45 (x : CarT × Int × Int × Int) : Bool :=
  (decide (x.2.2.1 > x.1.2.2.2.2.1))
def F16 (x : Int) : Int × Int × Int × Int × Int × Int :=
  (x, x, (0 : Int), (2 : Int), (0 : Int), (0 : Int))
def F27 (x : (Int × Int × Int × Int × Int × Int) × Int) : Int :=
  bif (x.2 == (1 : Int)) then
    (IntKind.i64.wrap (x.1.1 + (1 : Int)))
  else
    bif (x.2 == (2 : Int)) then
      (IntKind.i64.wrap (x.1.1 - (1 : Int)))
    else
      x.1.1
def F28 (x : Int × Int × Int × Int × Int × Int) : Int × Int × Int × Int × Int × Int :=
  bif (x.2.2.1 == (0 : Int)) then
    (x.2.1, x.2)
  else
    x
def F30 (x : (Int × Int × Int × Int × Int × Int) × Int) : Int :=
  bif (x.2 == (3 : Int)) then
    (1 : Int)
  else
    bif (x.2 == (5 : Int)) then
      (2 : Int)
    else
      bif (x.2 == (4 : Int)) then
        (2 : Int)
      else
        x.1.2.2.2.2.1
def F29 (x : (Int × Int × Int × Int × Int × Int) × Int × Int) : Int × Int × Int × Int × Int × Int :=
  bif ((x.2.1 == (0 : Int)) || (x.1.2.2.2.1 == x.2.1)) then
    x.1
  else
    bif ((x.1.2.2.2.1 == (0 : Int)) && (x.1.2.2.2.2.1 == x.2.1)) then
      (bif ((IntKind.i64.wrap (x.1.2.2.2.2.2 - (1 : Int))) == (0 : Int)) then
        (x.1.1, x.1.2.1, x.1.2.2.1, x.2.1, (0 : Int), (IntKind.i64.wrap (x.1.2.2.2.2.2 - (1 : Int))))
      else
        (x.1.1, x.1.2.1, x.1.2.2.1, x.1.2.2.2.1, x.1.2.2.2.2.1, (IntKind.i64.wrap (x.1.2.2.2.2.2 - (1 : Int)))))
    else
      bif ((IntKind.i64.wrap (x.2.2 - (1 : Int))) == (0 : Int)) then
        (x.1.1, x.1.2.1, x.1.2.2.1, x.2.1, (0 : Int), (IntKind.i64.wrap (x.2.2 - (1 : Int))))
      else
        (x.1.1, x.1.2.1, x.1.2.2.1, (0 : Int), x.2.1, (IntKind.i64.wrap (x.2.2 - (1 : Int))))
end Go.Proofs.YtngbcgnihbjfnaaGreatDoor.Sp
namespace Go.Proofs.YtngbcgnihbjfnaaGreatDoor.Sy
open Go Go.RowKit Sp
def LS4_3 : LS ty27.den := mkLS ty5 (Ty.pair ty3 ty27)  [(1, none)] [] [(6, none)] [(5, 8)] [(8, 100308, true, 53)] [] [(5, 5)] 0 false Sp.in4_3 Sp.st4_3 Sp.mu4_3
set_option maxHeartbeats 4000000 in
theorem so4_3 (k : ty5.den) (x : (Ty.pair ty3 ty27).den) (fk : Fit ty5 k) (h : Sp.in4_3 k x) : StepOk false Sp.in4_3 Sp.mu4_3 k x (Sp.st4_3 k x) := by
  try dsimp only [Ty.den] at *
  unfold Sp.in4_3 at h
  unfold Sp.st4_3
  have hlen : (Sp.K4_3_5 k x).length = x.2.2.2.2.2.2.2.2.length := by
    simp only [Sp.K4_3_5, Sp.K4_3_4, Sp.K4_3_3, Sp.K4_3_2, Sp.K4_3_1, setE, List.length_set]
  refine StepOk.cnd (fun hc => ?_) (fun hc => ?_)
  · rw [decide_eq_true_eq] at hc
    refine ⟨rfl, ?_, ?_⟩
    · unfold Sp.in4_3
      simp only
      rw [Sp.wrap_i64_of (x := x.1 + 1) (by omega) (by omega)]
      exact ⟨by omega, h.2.1, by rw [hlen]; exact h.2.2⟩
    · unfold Sp.mu4_3
      simp only
      rw [hlen, Sp.wrap_i64_of (x := x.1 + 1) (by omega) (by omega)]
      omega
  · exact rfl
set_option maxHeartbeats 4000000 in
theorem lo4_3 : LoopOk Tryz.prog gdS (RetAt Tryz.prog Tryz.f4 (Rsh.one (some 8)) (some 53) ty27) (bodyAt (bodyOf Tryz.f4) [0]) LS4_3 :=
  loop_run (ctxOkF gokGmT2 []) (L := lookL []) (d := BOut.brk (Ty.dflt ty5) (Ty.dflt (Ty.pair ty3 ty27))) (loops_of (l := []) (by kernel_rfl) (loops_nil)) (fun k x fk fx h => slim_of (S := (((decide (x.1 < ((x.2.2.2.2.2.2.2.2).length : Int))) = true → ((0 ≤ x.1 ∧ x.1 < ((x.2.2.2.2.2.2.2.2).length : Int)) ∧ (((3 : Int) ≠ 0) ∧ (((3 : Int) ≠ 0) ∧ (((3 : Int) ≠ 0) ∧ (((9 : Int) ≠ 0) ∧ (((3 : Int) ≠ 0) ∧ (((27 : Int) ≠ 0) ∧ (((5 : Int) ≠ 0) ∧ (x.2.1 ≠ 0)))))))))))) (by kernel_rfl) (by
  try dsimp only [Ty.den] at *
  simp only [Sp.in4_3, Fit, maxLen] at h fk fx
  simp only [IntKind.wrap_i64, IntKind.wrap_u8, IntKind.wrap_u32, IntKind.wrap_u64, Sp.tmod_lit, Sp.tdiv_lit, bne_eq_false_iff_eq, Int.natCast_inj, setE, copyL, sliceL, zrow, List.length_append, List.length_cons, List.length_nil, List.length_set, List.length_replicate, List.length_take, List.length_drop, decide_eq_true_eq, decide_eq_false_iff_not, Bool.or_eq_true, Bool.and_eq_true, Bool.or_eq_false_iff, Bool.and_eq_false_iff, Bool.not_eq_true', Bool.not_eq_false', Bool.not_eq_true, Bool.not_eq_false, beq_iff_eq, beq_eq_false_iff_ne, bne_iff_ne, ne_eq, implies_true, and_true, true_and] at *
  all_goals ((repeat' (first | exact trivial | apply And.intro | intro _)) <;> first | trivial | omega | exact Sp.tmod_nn (by omega) | exact Sp.tmod_lt (by omega) (by omega)))) (fun k x => by kernel_rfl) so4_3
def ct4 : Ct := { p := (Ty.pair ty5 ty5), psh := [none, none], r := ty27, rsh := (Rsh.one (some 8)), pre := some Sp.pre4, fresh := (some 53), F := Sp.F4 }
theorem ok4 : CtOk Tryz.prog gdS 4 ct4 :=
  fn_okU (ctxOkF gokGmT2 []) rfl Tryz.func4 (p := (Ty.pair ty5 ty5)) (psh := [none, none]) (r := ty27) (rsh := (Rsh.one (some 8))) (pre := some Sp.pre4) (fresh := (some 53)) (F := Sp.F4) (L := (lookL [(3, LS4_3)])) (c := bodyOf Tryz.f4) (dflt := Ty.dflt ty27) rfl (loops_of (l := [bodyAt (bodyOf Tryz.f4) [0]]) (by kernel_rfl) (loops_cons (s0 := LS4_3) (by kernel_rfl) lo4_3 (loops_nil)))
    (fun x fx hq => have h := hq _ rfl; safe_of (S := ((((5 : Int) ≠ 0) ∧ (((5 : Int) ≠ 0) ∧ (((3 : Int) ≠ 0) ∧ ((Sp.pre9 ((IntKind.i64.wrap ((2 : Int) + (IntKind.i64.wrap (Int.tmod x.1 (5 : Int))))), (IntKind.i64.wrap ((1 : Int) + (IntKind.i64.wrap (Int.tmod (IntKind.u8.wrap (Int.tdiv x.1 (5 : Int))) (3 : Int))))))) ∧ ((Sp.in4_3 x.2 ((0 : Int), (Sp.F9 ((IntKind.i64.wrap ((2 : Int) + (IntKind.i64.wrap (Int.tmod x.1 (5 : Int))))), (IntKind.i64.wrap ((1 : Int) + (IntKind.i64.wrap (Int.tmod (IntKind.u8.wrap (Int.tdiv x.1 (5 : Int))) (3 : Int))))))))) ∧ (((7 : Int) ≠ 0) ∧ True)))))))) (by kernel_rfl) (by
  try dsimp only [Ty.den] at *
  unfold Sp.pre4 at h
  have h1 : IntKind.i64.wrap ((2 : Int) + (IntKind.i64.wrap (Int.tmod x.1 (5 : Int)))) = 2 + x.1 % 5 := by simp only [Sp.tmod_ite, IntKind.wrap_i64]; omega
  have h2 : IntKind.i64.wrap ((1 : Int) + (IntKind.i64.wrap (Int.tmod (IntKind.u8.wrap (Int.tdiv x.1 (5 : Int))) (3 : Int)))) = ((1 + x.1 / 5 % 3).toNat : Int) := by simp only [Sp.tmod_ite, Sp.tdiv_ite, IntKind.wrap_i64, IntKind.wrap_u8]; omega
  rw [h1, h2, Sp.sample_eq _ _ (by omega) (by omega)]
  refine ⟨by omega, by omega, by omega, ?_, ?_, by omega, trivial⟩
  · unfold Sp.pre9; simp only; omega
  · unfold Sp.in4_3
    refine ⟨by simp, ?_, ?_⟩
    · show (2 + x.1 % 5 : Int) ≠ 0; omega
    · show (Sp.sampleB (2 + x.1 % 5) (1 + x.1 / 5 % 3).toNat).cars.length ≤ 100
      rw [Sp.sample_len]; omega)) (fun x => by kernel_rfl)
def ct10 : Ct := { p := ty3, psh := [none], r := ty39, rsh := (Rsh.one (some 6)), pre := none, fresh := none, F := Sp.F10 }
theorem ok10 : CtOk Tryz.prog gdS 10 ct10 :=
  fn_okU (ctxOkF gokGmT2 []) rfl Tryz.func10 (p := ty3) (psh := [none]) (r := ty39) (rsh := (Rsh.one (some 6))) (pre := none) (fresh := none) (F := Sp.F10) (L := noL) (c := bodyOf Tryz.f10) (dflt := Ty.dflt ty39) rfl (no_loops)
    (fun x fx _ => triv_of (by kernel_rfl)) (fun x => by kernel_rfl)
def ct31 : Ct := { p := (Ty.pair ty3 (Ty.pair ty3 ty3)), psh := [none, none, none], r := ty4, rsh := (Rsh.one (none)), pre := none, fresh := none, F := Sp.F31 }
theorem ok31 : CtOk Tryz.prog gdS 31 ct31 :=
  fn_okU (ctxOkF gokGmT2 []) rfl Tryz.func31 (p := (Ty.pair ty3 (Ty.pair ty3 ty3))) (psh := [none, none, none]) (r := ty4) (rsh := (Rsh.one (none))) (pre := none) (fresh := none) (F := Sp.F31) (L := noL) (c := bodyOf Tryz.f31) (dflt := Ty.dflt ty4) rfl (no_loops)
    (fun x fx _ => triv_of (by kernel_rfl)) (fun x => by kernel_rfl)
def ct19 : Ct := { p := (Ty.pair ty39 ty4), psh := [some 6, none], r := ty59, rsh := (Rsh.one (some 4)), pre := none, fresh := none, F := Sp.F19 }
theorem ok19 : CtOk Tryz.prog gdS 19 ct19 :=
  fn_okU (ctxOkF gokGmT2 []) rfl Tryz.func19 (p := (Ty.pair ty39 ty4)) (psh := [some 6, none]) (r := ty59) (rsh := (Rsh.one (some 4))) (pre := none) (fresh := none) (F := Sp.F19) (L := noL) (c := bodyOf Tryz.f19) (dflt := Ty.dflt ty59) rfl (no_loops)
    (fun x fx _ => triv_of (by kernel_rfl)) (fun x => by kernel_rfl)
def ct78 : Ct := { p := ty3, psh := [none], r := ty4, rsh := (Rsh.one (none)), pre := none, fresh := none, F := Sp.F78 }
theorem ok78 : CtOk Tryz.prog gdS 78 ct78 :=
  fn_okU (ctxOkF gokGmT2 []) rfl Tryz.func78 (p := ty3) (psh := [none]) (r := ty4) (rsh := (Rsh.one (none))) (pre := none) (fresh := none) (F := Sp.F78) (L := noL) (c := bodyOf Tryz.f78) (dflt := Ty.dflt ty4) rfl (no_loops)
    (fun x fx _ => triv_of (by kernel_rfl)) (fun x => by kernel_rfl)
def ct48 : Ct := { p := (Ty.pair ty3 ty3), psh := [none, none], r := ty4, rsh := (Rsh.one (none)), pre := none, fresh := none, F := Sp.F48 }
theorem ok48 : CtOk Tryz.prog gdS 48 ct48 :=
  fn_okU (ctxOkF gokGmT2 []) rfl Tryz.func48 (p := (Ty.pair ty3 ty3)) (psh := [none, none]) (r := ty4) (rsh := (Rsh.one (none))) (pre := none) (fresh := none) (F := Sp.F48) (L := noL) (c := bodyOf Tryz.f48) (dflt := Ty.dflt ty4) rfl (no_loops)
    (fun x fx _ => triv_of (by kernel_rfl)) (fun x => by kernel_rfl)
def ct49 : Ct := { p := ty34, psh := [some 3], r := ty3, rsh := (Rsh.one (none)), pre := none, fresh := none, F := Sp.F49 }
theorem ok49 : CtOk Tryz.prog gdS 49 ct49 :=
  fn_okU (ctxOkF gokGmT2 []) rfl Tryz.func49 (p := ty34) (psh := [some 3]) (r := ty3) (rsh := (Rsh.one (none))) (pre := none) (fresh := none) (F := Sp.F49) (L := noL) (c := bodyOf Tryz.f49) (dflt := Ty.dflt ty3) rfl (no_loops)
    (fun x fx _ => triv_of (by kernel_rfl)) (fun x => by kernel_rfl)
def ct33 : Ct := { p := (Ty.pair ty27 ty59), psh := [some 8, some 4], r := ty4, rsh := (Rsh.one (none)), pre := none, fresh := none, F := Sp.F33 }
theorem ok33 : CtOk Tryz.prog gdS 33 ct33 :=
  fn_okU (ctxOkF gokGmT2 []) rfl Tryz.func33 (p := (Ty.pair ty27 ty59)) (psh := [some 8, some 4]) (r := ty4) (rsh := (Rsh.one (none))) (pre := none) (fresh := none) (F := Sp.F33) (L := noL) (c := bodyOf Tryz.f33) (dflt := Ty.dflt ty4) rfl (no_loops)
    (fun x fx _ => triv_of (by kernel_rfl)) (fun x => by kernel_rfl)
def ct50 : Ct := { p := ty34, psh := [some 3], r := ty34, rsh := (Rsh.one (some 3)), pre := none, fresh := none, F := Sp.F50 }
theorem ok50 : CtOk Tryz.prog gdS 50 ct50 :=
  fn_okU (ctxOkF gokGmT2 []) rfl Tryz.func50 (p := ty34) (psh := [some 3]) (r := ty34) (rsh := (Rsh.one (some 3))) (pre := none) (fresh := none) (F := Sp.F50) (L := noL) (c := bodyOf Tryz.f50) (dflt := Ty.dflt ty34) rfl (no_loops)
    (fun x fx _ => triv_of (by kernel_rfl)) (fun x => by kernel_rfl)
def ct51 : Ct := { p := (Ty.pair ty53 ty32), psh := [some 9, some 5], r := ty4, rsh := (Rsh.one (none)), pre := none, fresh := none, F := Sp.F51 }
theorem ok51 : CtOk Tryz.prog gdS 51 ct51 :=
  fn_okU (ctxOkF gokGmT2 []) rfl Tryz.func51 (p := (Ty.pair ty53 ty32)) (psh := [some 9, some 5]) (r := ty4) (rsh := (Rsh.one (none))) (pre := none) (fresh := none) (F := Sp.F51) (L := noL) (c := bodyOf Tryz.f51) (dflt := Ty.dflt ty4) rfl (no_loops)
    (fun x fx _ => triv_of (by kernel_rfl)) (fun x => by kernel_rfl)
def ct52 : Ct := { p := (Ty.pair ty53 ty34), psh := [some 9, some 3], r := ty4, rsh := (Rsh.one (none)), pre := none, fresh := none, F := Sp.F52 }
theorem ok52 : CtOk Tryz.prog gdS 52 ct52 :=
  fn_okU (ctxOkF gokGmT2 []) rfl Tryz.func52 (p := (Ty.pair ty53 ty34)) (psh := [some 9, some 3]) (r := ty4) (rsh := (Rsh.one (none))) (pre := none) (fresh := none) (F := Sp.F52) (L := noL) (c := bodyOf Tryz.f52) (dflt := Ty.dflt ty4) rfl (no_loops)
    (fun x fx _ => triv_of (by kernel_rfl)) (fun x => by kernel_rfl)
def ct57 : Ct := { p := (Ty.pair ty32 ty3), psh := [some 5, none], r := ty32, rsh := (Rsh.one (some 5)), pre := none, fresh := none, F := Sp.F57 }
theorem ok57 : CtOk Tryz.prog gdS 57 ct57 :=
  fn_okU (ctxOkF gokGmT2 []) rfl Tryz.func57 (p := (Ty.pair ty32 ty3)) (psh := [some 5, none]) (r := ty32) (rsh := (Rsh.one (some 5))) (pre := none) (fresh := none) (F := Sp.F57) (L := noL) (c := bodyOf Tryz.f57) (dflt := Ty.dflt ty32) rfl (no_loops)
    (fun x fx _ => triv_of (by kernel_rfl)) (fun x => by kernel_rfl)
def ct58 : Ct := { p := ty3, psh := [none], r := ty3, rsh := (Rsh.one (none)), pre := none, fresh := none, F := Sp.F58 }
theorem ok58 : CtOk Tryz.prog gdS 58 ct58 :=
  fn_okU (ctxOkF gokGmT2 []) rfl Tryz.func58 (p := ty3) (psh := [none]) (r := ty3) (rsh := (Rsh.one (none))) (pre := none) (fresh := none) (F := Sp.F58) (L := noL) (c := bodyOf Tryz.f58) (dflt := Ty.dflt ty3) rfl (no_loops)
    (fun x fx _ => triv_of (by kernel_rfl)) (fun x => by kernel_rfl)
def ct55 : Ct := { p := (Ty.pair ty27 (Ty.pair ty3 (Ty.pair ty3 ty3))), psh := [some 8, none, none, none], r := ty3, rsh := (Rsh.one (none)), pre := none, fresh := none, F := Sp.F55 }
theorem ok55 : CtOk Tryz.prog gdS 55 ct55 :=
  fn_okU (ctxOkF gokGmT2 []) rfl Tryz.func55 (p := (Ty.pair ty27 (Ty.pair ty3 (Ty.pair ty3 ty3)))) (psh := [some 8, none, none, none]) (r := ty3) (rsh := (Rsh.one (none))) (pre := none) (fresh := none) (F := Sp.F55) (L := noL) (c := bodyOf Tryz.f55) (dflt := Ty.dflt ty3) rfl (no_loops)
    (fun x fx _ => slim_of (S := (((((((((Sp.F69 x.1) != (0 : Int)) || (decide (x.2.1 < (0 : Int)))) || (decide (x.2.1 ≥ ((x.1.2.2.2.2.2.2.2).length : Int)))) || (decide (x.2.2.2 < (0 : Int)))) || (decide (x.2.2.2 ≥ x.1.1))) || (decide (x.2.2.1 < x.1.2.2.2.1))) = false → (0 ≤ x.2.1 ∧ x.2.1 < ((x.1.2.2.2.2.2.2.2).length : Int))))) (by kernel_rfl) (by
  try dsimp only [Ty.den] at *
  simp only [Fit, maxLen] at fx
  simp only [true_and, IntKind.wrap_i64, IntKind.wrap_u8, IntKind.wrap_u32, IntKind.wrap_u64, Sp.tmod_lit, Sp.tdiv_lit, bne_eq_false_iff_eq, Int.natCast_inj, setE, copyL, sliceL, zrow, List.length_append, List.length_cons, List.length_nil, List.length_set, List.length_replicate, List.length_take, List.length_drop, decide_eq_true_eq, decide_eq_false_iff_not, Bool.or_eq_true, Bool.and_eq_true, Bool.or_eq_false_iff, Bool.and_eq_false_iff, Bool.not_eq_true', Bool.not_eq_false', Bool.not_eq_true, Bool.not_eq_false, beq_iff_eq, beq_eq_false_iff_ne, bne_iff_ne, ne_eq, implies_true, and_true, true_and] at *
  all_goals ((repeat' (first | exact trivial | apply And.intro | intro _)) <;> first | trivial | omega | exact Sp.tmod_nn (by omega) | exact Sp.tmod_lt (by omega) (by omega)))) (fun x => by kernel_rfl)
def ct38 : Ct := { p := ty39, psh := [some 6], r := ty39, rsh := (Rsh.one (some 6)), pre := none, fresh := none, F := Sp.F38 }
theorem ok38 : CtOk Tryz.prog gdS 38 ct38 :=
  fn_okU (ctxOkF gokGmT2 []) rfl Tryz.func38 (p := ty39) (psh := [some 6]) (r := ty39) (rsh := (Rsh.one (some 6))) (pre := none) (fresh := none) (F := Sp.F38) (L := noL) (c := bodyOf Tryz.f38) (dflt := Ty.dflt ty39) rfl (no_loops)
    (fun x fx _ => triv_of (by kernel_rfl)) (fun x => by kernel_rfl)
def ct21 : Ct := { p := (Ty.pair ty3 (Ty.pair ty3 ty3)), psh := [none, none, none], r := ty4, rsh := (Rsh.one (none)), pre := none, fresh := none, F := Sp.F21 }
theorem ok21 : CtOk Tryz.prog gdS 21 ct21 :=
  fn_okU (ctxOkF gokGmT2 []) rfl Tryz.func21 (p := (Ty.pair ty3 (Ty.pair ty3 ty3))) (psh := [none, none, none]) (r := ty4) (rsh := (Rsh.one (none))) (pre := none) (fresh := none) (F := Sp.F21) (L := noL) (c := bodyOf Tryz.f21) (dflt := Ty.dflt ty4) rfl (no_loops)
    (fun x fx _ => triv_of (by kernel_rfl)) (fun x => by kernel_rfl)
def ct14 : Ct := { p := (Ty.pair ty39 ty4), psh := [some 6, none], r := ty59, rsh := (Rsh.one (some 4)), pre := none, fresh := none, F := Sp.F14 }
theorem ok14 : CtOk Tryz.prog gdS 14 ct14 :=
  fn_okU (ctxOkF gokGmT2 []) rfl Tryz.func14 (p := (Ty.pair ty39 ty4)) (psh := [some 6, none]) (r := ty59) (rsh := (Rsh.one (some 4))) (pre := none) (fresh := none) (F := Sp.F14) (L := noL) (c := bodyOf Tryz.f14) (dflt := Ty.dflt ty59) rfl (no_loops)
    (fun x fx _ => triv_of (by kernel_rfl)) (fun x => by kernel_rfl)
def ct82 : Ct := { p := ty3, psh := [none], r := ty4, rsh := (Rsh.one (none)), pre := none, fresh := none, F := Sp.F82 }
theorem ok82 : CtOk Tryz.prog gdS 82 ct82 :=
  fn_okU (ctxOkF gokGmT2 []) rfl Tryz.func82 (p := ty3) (psh := [none]) (r := ty4) (rsh := (Rsh.one (none))) (pre := none) (fresh := none) (F := Sp.F82) (L := noL) (c := bodyOf Tryz.f82) (dflt := Ty.dflt ty4) rfl (no_loops)
    (fun x fx _ => triv_of (by kernel_rfl)) (fun x => by kernel_rfl)
def ct83 : Ct := { p := (Ty.pair ty3 (Ty.pair ty3 ty3)), psh := [none, none, none], r := (Ty.pair ty3 ty4), rsh := (Rsh.tup [none, none]), pre := none, fresh := none, F := Sp.F83 }
theorem ok83 : CtOk Tryz.prog gdS 83 ct83 :=
  fn_okU (ctxOkF gokGmT2 []) rfl Tryz.func83 (p := (Ty.pair ty3 (Ty.pair ty3 ty3))) (psh := [none, none, none]) (r := (Ty.pair ty3 ty4)) (rsh := (Rsh.tup [none, none])) (pre := none) (fresh := none) (F := Sp.F83) (L := noL) (c := bodyOf Tryz.f83) (dflt := Ty.dflt (Ty.pair ty3 ty4)) rfl (no_loops)
    (fun x fx _ => slim_of (S := ((((x.2.2 != (1 : Int)) && (x.2.2 != (2 : Int))) = false → (0 ≤ x.2.2 ∧ x.2.2 < (3 : Int))))) (by kernel_rfl) (by
  try dsimp only [Ty.den] at *
  simp only [Fit, maxLen] at fx
  simp only [true_and, IntKind.wrap_i64, IntKind.wrap_u8, IntKind.wrap_u32, IntKind.wrap_u64, Sp.tmod_lit, Sp.tdiv_lit, bne_eq_false_iff_eq, Int.natCast_inj, setE, copyL, sliceL, zrow, List.length_append, List.length_cons, List.length_nil, List.length_set, List.length_replicate, List.length_take, List.length_drop, decide_eq_true_eq, decide_eq_false_iff_not, Bool.or_eq_true, Bool.and_eq_true, Bool.or_eq_false_iff, Bool.and_eq_false_iff, Bool.not_eq_true', Bool.not_eq_false', Bool.not_eq_true, Bool.not_eq_false, beq_iff_eq, beq_eq_false_iff_ne, bne_iff_ne, ne_eq, implies_true, and_true, true_and] at *
  all_goals ((repeat' (first | exact trivial | apply And.intro | intro _)) <;> first | trivial | omega | exact Sp.tmod_nn (by omega) | exact Sp.tmod_lt (by omega) (by omega)))) (fun x => by kernel_rfl)
def ct23 : Ct := { p := (Ty.pair ty27 ty59), psh := [some 8, some 4], r := ty4, rsh := (Rsh.one (none)), pre := none, fresh := none, F := Sp.F23 }
theorem ok23 : CtOk Tryz.prog gdS 23 ct23 :=
  fn_okU (ctxOkF gokGmT2 []) rfl Tryz.func23 (p := (Ty.pair ty27 ty59)) (psh := [some 8, some 4]) (r := ty4) (rsh := (Rsh.one (none))) (pre := none) (fresh := none) (F := Sp.F23) (L := noL) (c := bodyOf Tryz.f23) (dflt := Ty.dflt ty4) rfl (no_loops)
    (fun x fx _ => triv_of (by kernel_rfl)) (fun x => by kernel_rfl)
def cp40 : Cp := { p := (Ty.pair ty35 ty67), psh := [none], mask := [true, false], sz := [28], ro := false, ex := false, q := ty67, r := Ty.unit, rsh := Rsh.none, pre := some Sp.pre40, F := Sp.F40 }
theorem va40 (x : (Ty.pair ty35 ty67).den) : ((evFnP (ctxG GmT2) Tryz.f40 (Ty.pair ty35 ty67) [none] [true, false] [28] false false ty67 Rsh.none Ty.unit noL x)).val (fun _ => (Ty.dflt Ty.unit, Ty.dflt ty67)) (Ty.dflt Ty.unit, Ty.dflt ty67) = Sp.F40 x := by kernel_rfl
theorem sa40 (x : (Ty.pair ty35 ty67).den) (fx : Fit (Ty.pair ty35 ty67) x) (h : Sp.pre40 x) : SafeW ((evFnP (ctxG GmT2) Tryz.f40 (Ty.pair ty35 ty67) [none] [true, false] [28] false false ty67 Rsh.none Ty.unit noL x)) := safe_of (S := (((0 ≤ x.2.1.1) ∧ (((x.2.2.2.1.2.1.1 != (0 : Int)) = true → ((0 ≤ x.2.2.2.2.1.1) ∧ True)) ∧ ((x.2.2.2.1.2.1.1 != (0 : Int)) = false → True))))) (by kernel_rfl) (by
  try dsimp only [Ty.den] at *
  unfold Sp.pre40 Sp.CtlOk at h
  exact ⟨h.1, fun _ => ⟨h.2.2.2, trivial⟩, fun _ => trivial⟩)
theorem ok40 : CpOk Tryz.prog gdS 40 cp40 :=
  fn_okPU (ctxOkF gokGmT2 []) rfl Tryz.func40 cp40 (L := noL) (c := bodyOf Tryz.f40) (dflt := (Ty.dflt Ty.unit, Ty.dflt ty67)) rfl (no_loops)
    (safe_preP rfl @sa40) va40
def cp26 : Cp := { p := ty67, psh := [], mask := [true], sz := [28], ro := true, ex := false, q := ty67, r := ty53, rsh := (Rsh.one (some 9)), pre := some Sp.pre26, F := Sp.F26 }
theorem va26 (x : ty67.den) : ((evFnP (ctxG GmT2) Tryz.f26 ty67 [] [true] [28] true false ty67 (Rsh.one (some 9)) ty53 noL x)).val (fun _ => (Ty.dflt ty53, Ty.dflt ty67)) (Ty.dflt ty53, Ty.dflt ty67) = Sp.F26 x := by kernel_rfl
theorem sa26 (x : ty67.den) (fx : Fit ty67 x) (h : Sp.pre26 x) : SafeW ((evFnP (ctxG GmT2) Tryz.f26 ty67 [] [true] [28] true false ty67 (Rsh.one (some 9)) ty53 noL x)) := safe_of (S := (((0 ≤ x.2.1 ∧ x.2.1 < ((x.1.2.2.2.2.2.2.2).length : Int)) ∧ True))) (by kernel_rfl) (by
  try dsimp only [Ty.den] at *
  unfold Sp.pre26 Sp.CtlOk at h
  exact ⟨⟨h.2.1, h.2.2.1⟩, trivial⟩)
theorem ok26 : CpOk Tryz.prog gdS 26 cp26 :=
  fn_okPU (ctxOkF gokGmT2 []) rfl Tryz.func26 cp26 (L := noL) (c := bodyOf Tryz.f26) (dflt := (Ty.dflt ty53, Ty.dflt ty67)) rfl (no_loops)
    (safe_preP rfl @sa26) va26
def ct89 : Ct := { p := ty3, psh := [none], r := ty3, rsh := (Rsh.one (none)), pre := none, fresh := none, F := Sp.F89 }
theorem ok89 : CtOk Tryz.prog gdS 89 ct89 :=
  fn_okU (ctxOkF gokGmT2 []) rfl Tryz.func89 (p := ty3) (psh := [none]) (r := ty3) (rsh := (Rsh.one (none))) (pre := none) (fresh := none) (F := Sp.F89) (L := noL) (c := bodyOf Tryz.f89) (dflt := Ty.dflt ty3) rfl (no_loops)
    (fun x fx _ => triv_of (by kernel_rfl)) (fun x => by kernel_rfl)
def ct86 : Ct := { p := (Ty.pair ty32 ty3), psh := [some 5, none], r := ty32, rsh := (Rsh.one (some 5)), pre := none, fresh := none, F := Sp.F86 }
theorem ok86 : CtOk Tryz.prog gdS 86 ct86 :=
  fn_okU (ctxOkF gokGmT2 []) rfl Tryz.func86 (p := (Ty.pair ty32 ty3)) (psh := [some 5, none]) (r := ty32) (rsh := (Rsh.one (some 5))) (pre := none) (fresh := none) (F := Sp.F86) (L := noL) (c := bodyOf Tryz.f86) (dflt := Ty.dflt ty32) rfl (no_loops)
    (fun x fx _ => triv_of (by kernel_rfl)) (fun x => by kernel_rfl)
def ct68 : Ct := { p := (Ty.pair ty27 (Ty.pair ty3 (Ty.pair ty3 ty3))), psh := [some 8, none, none, none], r := ty3, rsh := (Rsh.one (none)), pre := none, fresh := none, F := Sp.F68 }
theorem ok68 : CtOk Tryz.prog gdS 68 ct68 :=
  fn_okU (ctxOkF gokGmT2 []) rfl Tryz.func68 (p := (Ty.pair ty27 (Ty.pair ty3 (Ty.pair ty3 ty3)))) (psh := [some 8, none, none, none]) (r := ty3) (rsh := (Rsh.one (none))) (pre := none) (fresh := none) (F := Sp.F68) (L := noL) (c := bodyOf Tryz.f68) (dflt := Ty.dflt ty3) rfl (no_loops)
    (fun x fx _ => slim_of (S := (((((((((Sp.F60 x.1) != (0 : Int)) || (decide (x.2.1 < (0 : Int)))) || (decide (x.2.1 ≥ ((x.1.2.2.2.2.2.2.2).length : Int)))) || (decide (x.2.2.2 < (0 : Int)))) || (decide (x.2.2.2 ≥ x.1.1))) || (decide (x.2.2.1 < x.1.2.2.2.1))) = false → (0 ≤ x.2.1 ∧ x.2.1 < ((x.1.2.2.2.2.2.2.2).length : Int))))) (by kernel_rfl) (by
  try dsimp only [Ty.den] at *
  simp only [Fit, maxLen] at fx
  simp only [true_and, IntKind.wrap_i64, IntKind.wrap_u8, IntKind.wrap_u32, IntKind.wrap_u64, Sp.tmod_lit, Sp.tdiv_lit, bne_eq_false_iff_eq, Int.natCast_inj, setE, copyL, sliceL, zrow, List.length_append, List.length_cons, List.length_nil, List.length_set, List.length_replicate, List.length_take, List.length_drop, decide_eq_true_eq, decide_eq_false_iff_not, Bool.or_eq_true, Bool.and_eq_true, Bool.or_eq_false_iff, Bool.and_eq_false_iff, Bool.not_eq_true', Bool.not_eq_false', Bool.not_eq_true, Bool.not_eq_false, beq_iff_eq, beq_eq_false_iff_ne, bne_iff_ne, ne_eq, implies_true, and_true, true_and] at *
  all_goals ((repeat' (first | exact trivial | apply And.intro | intro _)) <;> first | trivial | omega | exact Sp.tmod_nn (by omega) | exact Sp.tmod_lt (by omega) (by omega)))) (fun x => by kernel_rfl)
def ct44 : Ct := { p := (Ty.pair ty53 ty32), psh := [some 9, some 5], r := ty4, rsh := (Rsh.one (none)), pre := none, fresh := none, F := Sp.F44 }
theorem ok44 : CtOk Tryz.prog gdS 44 ct44 :=
  fn_okU (ctxOkF gokGmT2 []) rfl Tryz.func44 (p := (Ty.pair ty53 ty32)) (psh := [some 9, some 5]) (r := ty4) (rsh := (Rsh.one (none))) (pre := none) (fresh := none) (F := Sp.F44) (L := noL) (c := bodyOf Tryz.f44) (dflt := Ty.dflt ty4) rfl (no_loops)
    (fun x fx _ => triv_of (by kernel_rfl)) (fun x => by kernel_rfl)
def ct45 : Ct := { p := (Ty.pair ty53 ty34), psh := [some 9, some 3], r := ty4, rsh := (Rsh.one (none)), pre := none, fresh := none, F := Sp.F45 }
theorem ok45 : CtOk Tryz.prog gdS 45 ct45 :=
  fn_okU (ctxOkF gokGmT2 []) rfl Tryz.func45 (p := (Ty.pair ty53 ty34)) (psh := [some 9, some 3]) (r := ty4) (rsh := (Rsh.one (none))) (pre := none) (fresh := none) (F := Sp.F45) (L := noL) (c := bodyOf Tryz.f45) (dflt := Ty.dflt ty4) rfl (no_loops)
    (fun x fx _ => triv_of (by kernel_rfl)) (fun x => by kernel_rfl)
def ct16 : Ct := { p := ty3, psh := [none], r := ty39, rsh := (Rsh.one (some 6)), pre := none, fresh := none, F := Sp.F16 }
theorem ok16 : CtOk Tryz.prog gdS 16 ct16 :=
  fn_okU (ctxOkF gokGmT2 []) rfl Tryz.func16 (p := ty3) (psh := [none]) (r := ty39) (rsh := (Rsh.one (some 6))) (pre := none) (fresh := none) (F := Sp.F16) (L := noL) (c := bodyOf Tryz.f16) (dflt := Ty.dflt ty39) rfl (no_loops)
    (fun x fx _ => triv_of (by kernel_rfl)) (fun x => by kernel_rfl)
def ct27 : Ct := { p := (Ty.pair ty39 ty3), psh := [some 6, none], r := ty3, rsh := (Rsh.one (none)), pre := none, fresh := none, F := Sp.F27 }
theorem ok27 : CtOk Tryz.prog gdS 27 ct27 :=
  fn_okU (ctxOkF gokGmT2 []) rfl Tryz.func27 (p := (Ty.pair ty39 ty3)) (psh := [some 6, none]) (r := ty3) (rsh := (Rsh.one (none))) (pre := none) (fresh := none) (F := Sp.F27) (L := noL) (c := bodyOf Tryz.f27) (dflt := Ty.dflt ty3) rfl (no_loops)
    (fun x fx _ => triv_of (by kernel_rfl)) (fun x => by kernel_rfl)
def ct28 : Ct := { p := ty39, psh := [some 6], r := ty39, rsh := (Rsh.one (some 6)), pre := none, fresh := none, F := Sp.F28 }
theorem ok28 : CtOk Tryz.prog gdS 28 ct28 :=
  fn_okU (ctxOkF gokGmT2 []) rfl Tryz.func28 (p := ty39) (psh := [some 6]) (r := ty39) (rsh := (Rsh.one (some 6))) (pre := none) (fresh := none) (F := Sp.F28) (L := noL) (c := bodyOf Tryz.f28) (dflt := Ty.dflt ty39) rfl (no_loops)
    (fun x fx _ => triv_of (by kernel_rfl)) (fun x => by kernel_rfl)
def ct30 : Ct := { p := (Ty.pair ty39 ty3), psh := [some 6, none], r := ty3, rsh := (Rsh.one (none)), pre := none, fresh := none, F := Sp.F30 }
theorem ok30 : CtOk Tryz.prog gdS 30 ct30 :=
  fn_okU (ctxOkF gokGmT2 []) rfl Tryz.func30 (p := (Ty.pair ty39 ty3)) (psh := [some 6, none]) (r := ty3) (rsh := (Rsh.one (none))) (pre := none) (fresh := none) (F := Sp.F30) (L := noL) (c := bodyOf Tryz.f30) (dflt := Ty.dflt ty3) rfl (no_loops)
    (fun x fx _ => triv_of (by kernel_rfl)) (fun x => by kernel_rfl)
def ct29 : Ct := { p := (Ty.pair ty39 (Ty.pair ty3 ty3)), psh := [some 6, none, none], r := ty39, rsh := (Rsh.one (some 6)), pre := none, fresh := none, F := Sp.F29 }
theorem ok29 : CtOk Tryz.prog gdS 29 ct29 :=
  fn_okU (ctxOkF gokGmT2 []) rfl Tryz.func29 (p := (Ty.pair ty39 (Ty.pair ty3 ty3))) (psh := [some 6, none, none]) (r := ty39) (rsh := (Rsh.one (some 6))) (pre := none) (fresh := none) (F := Sp.F29) (L := noL) (c := bodyOf Tryz.f29) (dflt := Ty.dflt ty39) rfl (no_loops)
    (fun x fx _ => triv_of (by kernel_rfl)) (fun x => by kernel_rfl)
def PmV0 : List (Nat × Cp) := (40, cp40) :: (26, cp26) :: []
theorem pgokPmV0 : PGOk PmV0 := pgok_cons ok40 ⟨_, Tryz.func40, by kernel_rfl, by kernel_rfl⟩ (pgok_cons ok26 ⟨_, Tryz.func26, by kernel_rfl, by kernel_rfl⟩ (pgok_nil))
def GmV0 : List (Nat × Ct) := (4, ct4) :: (10, ct10) :: (31, ct31) :: (19, ct19) :: (78, ct78) :: (48, ct48) :: (49, ct49) :: (33, ct33) :: (50, ct50) :: (51, ct51) :: (52, ct52) :: (57, ct57) :: (58, ct58) :: (55, ct55) :: (38, ct38) :: (21, ct21) :: (14, ct14) :: (82, ct82) :: (83, ct83) :: (23, ct23) :: (89, ct89) :: (86, ct86) :: (68, ct68) :: (44, ct44) :: (45, ct45) :: (16, ct16) :: (27, ct27) :: (28, ct28) :: (30, ct30) :: (29, ct29) :: GmT2
theorem gokGmV0 : GOk GmV0 := gok_cons ok4 ⟨_, Tryz.func4, by kernel_rfl, by kernel_rfl⟩ (gok_cons ok10 ⟨_, Tryz.func10, by kernel_rfl, by kernel_rfl⟩ (gok_cons ok31 ⟨_, Tryz.func31, by kernel_rfl, by kernel_rfl⟩ (gok_cons ok19 ⟨_, Tryz.func19, by kernel_rfl, by kernel_rfl⟩ (gok_cons ok78 ⟨_, Tryz.func78, by kernel_rfl, by kernel_rfl⟩ (gok_cons ok48 ⟨_, Tryz.func48, by kernel_rfl, by kernel_rfl⟩ (gok_cons ok49 ⟨_, Tryz.func49, by kernel_rfl, by kernel_rfl⟩ (gok_cons ok33 ⟨_, Tryz.func33, by kernel_rfl, by kernel_rfl⟩ (gok_cons ok50 ⟨_, Tryz.func50, by kernel_rfl, by kernel_rfl⟩ (gok_cons ok51 ⟨_, Tryz.func51, by kernel_rfl, by kernel_rfl⟩ (gok_cons ok52 ⟨_, Tryz.func52, by kernel_rfl, by kernel_rfl⟩ (gok_cons ok57 ⟨_, Tryz.func57, by kernel_rfl, by kernel_rfl⟩ (gok_cons ok58 ⟨_, Tryz.func58, by kernel_rfl, by kernel_rfl⟩ (gok_cons ok55 ⟨_, Tryz.func55, by kernel_rfl, by kernel_rfl⟩ (gok_cons ok38 ⟨_, Tryz.func38, by kernel_rfl, by kernel_rfl⟩ (gok_cons ok21 ⟨_, Tryz.func21, by kernel_rfl, by kernel_rfl⟩ (gok_cons ok14 ⟨_, Tryz.func14, by kernel_rfl, by kernel_rfl⟩ (gok_cons ok82 ⟨_, Tryz.func82, by kernel_rfl, by kernel_rfl⟩ (gok_cons ok83 ⟨_, Tryz.func83, by kernel_rfl, by kernel_rfl⟩ (gok_cons ok23 ⟨_, Tryz.func23, by kernel_rfl, by kernel_rfl⟩ (gok_cons ok89 ⟨_, Tryz.func89, by kernel_rfl, by kernel_rfl⟩ (gok_cons ok86 ⟨_, Tryz.func86, by kernel_rfl, by kernel_rfl⟩ (gok_cons ok68 ⟨_, Tryz.func68, by kernel_rfl, by kernel_rfl⟩ (gok_cons ok44 ⟨_, Tryz.func44, by kernel_rfl, by kernel_rfl⟩ (gok_cons ok45 ⟨_, Tryz.func45, by kernel_rfl, by kernel_rfl⟩ (gok_cons ok16 ⟨_, Tryz.func16, by kernel_rfl, by kernel_rfl⟩ (gok_cons ok27 ⟨_, Tryz.func27, by kernel_rfl, by kernel_rfl⟩ (gok_cons ok28 ⟨_, Tryz.func28, by kernel_rfl, by kernel_rfl⟩ (gok_cons ok30 ⟨_, Tryz.func30, by kernel_rfl, by kernel_rfl⟩ (gok_cons ok29 ⟨_, Tryz.func29, by kernel_rfl, by kernel_rfl⟩ (gokGmT2))))))))))))))))))))))))))))))
end Go.Proofs.YtngbcgnihbjfnaaGreatDoor.Sy
end

section
/- The law's building with small times, whole (own work). -/
namespace Go.Proofs.YtngbcgnihbjfnaaGreatDoor.Sp
open Go Sy
set_option maxRecDepth 10000
set_option linter.unusedVariables false
def smallCar (fl t : Int) (i : Nat) : CarT := (100, 2, 6, 5, 1 + t % 3, 1 + t / 3 % 3, 1 + t / 9 % 3, 1 + t / 9 % 3 + t / 27 % 5, ((i : Int) + t) % fl)
def midCars (fl t : Int) (n i : Nat) : List CarT := (List.range n).map (fun j => if j < i then smallCar fl t j else sampleCar fl j)
theorem mid_len (fl t : Int) (n i : Nat) : (midCars fl t n i).length = n := by simp [midCars]
def midB (fl t : Int) (n i : Nat) : BldT := (fl, 1, 4000, 30, 4591870180066957722, 4605380978949069210, 4607632778762754458, midCars fl t n i)
def smallB (fl t : Int) (n : Nat) : BldT := (fl, 1, 4000, 1 + t % 7, 4591870180066957722, 4605380978949069210, 4607632778762754458, (List.range n).map (smallCar fl t))
theorem nth_setE (l : List CarT) (i : Nat) (v : CarT) (h : i < l.length) : nthT (setE ty53 l (i : Int) v) (i : Int) = v := by
  show nthT (l.set i v) (i : Int) = v
  rw [nthT_nat _ _ (by rw [List.length_set]; exact h), List.getElem_set_self]
theorem setE_setE (l : List CarT) (i : Nat) (v w : CarT) : setE ty53 (setE ty53 l (i : Int) v) (i : Int) w = setE ty53 l (i : Int) w := by
  show (l.set i v).set i w = l.set i w
  rw [List.set_set]
theorem mid_nth (fl t : Int) (n i : Nat) (h : i < n) : nthT (midCars fl t n i) (i : Int) = sampleCar fl i := by
  rw [nthT_nat _ _ (by rw [mid_len]; exact h)]
  simp [midCars]
theorem mid_set (fl t : Int) (n i : Nat) : setE ty53 (midCars fl t n i) (i : Int) (smallCar fl t i) = midCars fl t n (i + 1) := by
  show (midCars fl t n i).set i (smallCar fl t i) = _
  apply List.ext_getElem
  · rw [List.length_set, mid_len, mid_len]
  · intro j h1 h2
    rw [List.getElem_set]
    simp only [midCars, List.getElem_map, List.getElem_range]
    split
    · rename_i e; subst e; simp
    · by_cases hj : j < i
      · rw [if_pos hj, if_pos (by omega)]
      · rw [if_neg hj, if_neg (by omega)]
theorem small_eq {x : Int × Int} (h : (0 ≤ x.1 ∧ x.1 ≤ 255) ∧ 0 ≤ x.2 ∧ x.2 ≤ 255) :
    F4 x = smallB (2 + x.1 % 5) x.2 (1 + x.1 / 5 % 3).toNat := by
  obtain ⟨a, t⟩ := x
  simp only at h
  have h1 : IntKind.i64.wrap ((2 : Int) + (IntKind.i64.wrap (Int.tmod a (5 : Int)))) = 2 + a % 5 := by simp only [tmod_ite, IntKind.wrap_i64]; omega
  have h2 : IntKind.i64.wrap ((1 : Int) + (IntKind.i64.wrap (Int.tmod (IntKind.u8.wrap (Int.tdiv a (5 : Int))) (3 : Int)))) = ((1 + a / 5 % 3).toNat : Int) := by simp only [tmod_ite, tdiv_ite, IntKind.wrap_i64, IntKind.wrap_u8]; omega
  have h7 : IntKind.i64.wrap ((1 : Int) + (IntKind.i64.wrap (Int.tmod t (7 : Int)))) = 1 + t % 7 := by simp only [tmod_ite, IntKind.wrap_i64]; omega
  unfold F4
  simp only
  rw [h1, h2, h7, sample_eq _ _ (by omega) (by omega)]
  generalize hfl : 2 + a % 5 = fl
  generalize hnn : (1 + a / 5 % 3).toNat = n
  have hf : 2 ≤ fl ∧ fl ≤ 6 := by omega
  have hn : 1 ≤ n ∧ n ≤ 3 := by omega
  have m0 : sampleB fl n = midB fl t n 0 := by simp [sampleB, midB, midCars]
  have d0 : Int.tmod t 3 = t % 3 := Int.tmod_eq_emod_of_nonneg h.2.1
  have d3 : IntKind.u8.wrap (Int.tdiv t (3 : Int)) = t / 3 := by rw [Int.tdiv_eq_ediv_of_nonneg h.2.1, IntKind.wrap_u8]; omega
  have d9 : IntKind.u8.wrap (Int.tdiv t (9 : Int)) = t / 9 := by rw [Int.tdiv_eq_ediv_of_nonneg h.2.1, IntKind.wrap_u8]; omega
  have d27 : IntKind.u8.wrap (Int.tdiv t (27 : Int)) = t / 27 := by rw [Int.tdiv_eq_ediv_of_nonneg h.2.1, IntKind.wrap_u8]; omega
  have m3 : Int.tmod (t / 3) 3 = t / 3 % 3 := Int.tmod_eq_emod_of_nonneg (by omega)
  have m9 : Int.tmod (t / 9) 3 = t / 9 % 3 := Int.tmod_eq_emod_of_nonneg (by omega)
  have m27 : Int.tmod (t / 27) 5 = t / 27 % 5 := Int.tmod_eq_emod_of_nonneg (by omega)
  have c1 : IntKind.i64.wrap ((1 : Int) + (IntKind.i64.wrap (Int.tmod t (3 : Int)))) = 1 + t % 3 := by rw [d0]; simp only [IntKind.wrap_i64]; omega
  have c2 : IntKind.i64.wrap ((1 : Int) + (IntKind.i64.wrap (Int.tmod (IntKind.u8.wrap (Int.tdiv t (3 : Int))) (3 : Int)))) = 1 + t / 3 % 3 := by rw [d3, m3]; simp only [IntKind.wrap_i64]; omega
  have c3 : IntKind.i64.wrap ((1 : Int) + (IntKind.i64.wrap (Int.tmod (IntKind.u8.wrap (Int.tdiv t (9 : Int))) (3 : Int)))) = 1 + t / 9 % 3 := by rw [d9, m9]; simp only [IntKind.wrap_i64]; omega
  have c4 : IntKind.i64.wrap ((1 + t / 9 % 3) + (IntKind.i64.wrap (Int.tmod (IntKind.u8.wrap (Int.tdiv t (27 : Int))) (5 : Int)))) = 1 + t / 9 % 3 + t / 27 % 5 := by rw [d27, m27]; simp only [IntKind.wrap_i64]; omega
  have hK : ∀ i : Nat, i < n → K4_3_5 t ((i : Int), midB fl t n i) = midCars fl t n (i + 1) := by
    intro i hi
    have c5 : Int.tmod (IntKind.i64.wrap ((i : Int) + IntKind.i64.wrap t)) fl = ((i : Int) + t) % fl := by
      have e1 : IntKind.i64.wrap t = t := by simp only [IntKind.wrap_i64]; omega
      have e2 : IntKind.i64.wrap ((i : Int) + t) = (i : Int) + t := by simp only [IntKind.wrap_i64]; omega
      rw [e1, e2, Int.tmod_eq_emod_of_nonneg (by omega)]
    have hl : i < (midCars fl t n i).length := by rw [mid_len]; exact hi
    have hl' : ∀ v, i < (setE ty53 (midCars fl t n i) (i : Int) v).length := by intro v; show i < (List.set _ _ _).length; rw [List.length_set]; exact hl
    simp only [K4_3_5, K4_3_4, K4_3_3, K4_3_2, K4_3_1, midB]
    rw [mid_nth _ _ _ _ hi]
    simp only [setE_setE, nth_setE _ _ _ hl, c1, c2, c3, c4, c5, sampleCar]
    exact mid_set fl t n i
  have hs : ∀ i, i < n → ∃ k', st4_3 t ((fun i : Nat => ((i : Int), midB fl t n i)) i) = .next k' ((fun i : Nat => ((i : Int), midB fl t n i)) (i + 1)) := by
    intro i hi
    refine ⟨t, ?_⟩
    have e1 : decide ((i : Int) < ((midB fl t n i).2.2.2.2.2.2.2.length : Int)) = true := by
      show decide ((i : Int) < ((midCars fl t n i).length : Int)) = true
      rw [mid_len]; simp; omega
    simp only [st4_3, e1, cond_true, wrap_succ hi (show n ≤ maxLen by simp [maxLen]; omega)]
    rw [hK i hi]
    simp only [midB]
  have hb : st4_3 t ((fun i : Nat => ((i : Int), midB fl t n i)) n) = .brk t ((n : Int), midB fl t n n) := by
    have e1 : decide ((n : Int) < ((midB fl t n n).2.2.2.2.2.2.2.length : Int)) = false := by
      show decide ((n : Int) < ((midCars fl t n n).length : Int)) = false
      rw [mid_len]; simp
    simp only [st4_3, e1, cond_false]
  have key : G4_3 t (0, midB fl t n 0) = ((n : Int), midB fl t n n) := by
    unfold G4_3
    exact (end_row_brk _ n hs hb (fuel := Nat.succ (mu4_3 t (0, midB fl t n 0))) (by simp [mu4_3, midB, mid_len])).1
  rw [m0, key]
  have e2 : midCars fl t n n = (List.range n).map (smallCar fl t) := by
    unfold midCars
    apply List.map_congr_left
    intro j hj
    rw [if_pos (List.mem_range.mp hj)]
  simp only [midB, smallB, e2]
theorem small_len (fl t : Int) (n : Nat) : (smallB fl t n).cars.length = n := by
  show ((List.range n).map (smallCar fl t)).length = n
  rw [List.length_map, List.length_range]
theorem small_isB (fl t : Int) (n : Nat) (h : 2 ≤ fl ∧ fl ≤ 32) (hn : 1 ≤ n ∧ n ≤ 8) (ht : 0 ≤ t ∧ t ≤ 255) : IsB (smallB fl t n) where
  fl := h
  cn := by rw [small_len]; exact hn
  deb := by show (1 : Int) ≤ 1 ∧ (1 : Int) ≤ 16; decide
  park := by show (1 : Int) ≤ 1 + t % 7 ∧ 1 + t % 7 ≤ 10000; omega
  car := by
    intro c hc
    have hc : c ∈ (List.range n).map (smallCar fl t) := hc
    rw [List.mem_map] at hc
    obtain ⟨i, hi, rfl⟩ := hc
    have h1 : 0 ≤ ((i : Int) + t) % fl := Int.emod_nonneg _ (by omega)
    have h2 : ((i : Int) + t) % fl < fl := Int.emod_lt_of_pos _ (by omega)
    have e1 : 1 ≤ 1 + t % 3 ∧ 1 + t % 3 ≤ 10000 := by omega
    have e2 : 1 ≤ 1 + t / 3 % 3 ∧ 1 + t / 3 % 3 ≤ 10000 := by omega
    have e3 : 1 ≤ 1 + t / 9 % 3 ∧ 1 + t / 9 % 3 ≤ 10000 := by omega
    have e4 : 1 ≤ 1 + t / 9 % 3 + t / 27 % 5 ∧ 1 + t / 9 % 3 + t / 27 % 5 ≤ 10000 := by omega
    have e5 : 1 + t / 9 % 3 ≤ 1 + t / 9 % 3 + t / 27 % 5 := by omega
    have e6 : ((i : Int) + t) % fl ≤ fl - 1 := by omega
    simp only [carOk, smallCar, tOk, smallB, Bool.and_eq_true]
    have dt : ∀ {p q : Prop} [Decidable p] [Decidable q], p ∧ q → decide p = true ∧ decide q = true := fun h => ⟨decide_eq_true h.1, decide_eq_true h.2⟩
    exact ⟨⟨⟨⟨⟨⟨⟨⟨⟨dt (by decide), dt (by decide)⟩, dt (by decide)⟩, dt e1⟩, dt e2⟩, dt e3⟩, dt e4⟩, dt (by decide)⟩, decide_eq_true e5⟩, dt ⟨h1, e6⟩⟩
  loads := by simp only [loadsOk, smallB]; kernel_rfl
  room := by rw [small_len]; show 18 * (n : Int) + 24 ≤ 4000 ∧ (4000 : Int) ≤ 65536; omega
theorem b15 {x : Int × Int} (h : (0 ≤ x.1 ∧ x.1 ≤ 255) ∧ 0 ≤ x.2 ∧ x.2 ≤ 255) : IsB (F4 x) ∧ (F4 x).1 ≤ 6 := by
  rw [small_eq h]
  exact ⟨small_isB _ _ _ (by omega) (by omega) (by omega), by show 2 + x.1 % 5 ≤ 6; omega⟩
end Go.Proofs.YtngbcgnihbjfnaaGreatDoor.Sp
end

section
/- What every law with this building needs (own work). -/
namespace Go.Proofs.YtngbcgnihbjfnaaGreatDoor.Sp
open Go Sy
theorem valid_of {b : BldT} (hb : IsB b) (hl : b.cars.length ≤ maxLen) : Sp.F60 b = 0 := by
  rw [valid_eq b hl]; exact (vld_zero b).2 hb
theorem car_at {b : BldT} (hb : IsB b) {i : Int} (h0 : 0 ≤ i) (h1 : i < (b.2.2.2.2.2.2.2.length : Int)) : carOk b.1 (nthT b.2.2.2.2.2.2.2 i) = true := by
  rw [nthT_of _ _ h0 (by omega)]
  exact hb.car _ (List.getElem_mem _)
theorem car_times {b : BldT} (hb : IsB b) {i : Int} (h0 : 0 ≤ i) (h1 : i < (b.2.2.2.2.2.2.2.length : Int)) :
    (1 ≤ (nthT b.2.2.2.2.2.2.2 i).2.2.2.2.1 ∧ (nthT b.2.2.2.2.2.2.2 i).2.2.2.2.1 ≤ 10000) ∧
    (1 ≤ (nthT b.2.2.2.2.2.2.2 i).2.2.2.2.2.1 ∧ (nthT b.2.2.2.2.2.2.2 i).2.2.2.2.2.1 ≤ 10000) ∧
    (1 ≤ (nthT b.2.2.2.2.2.2.2 i).2.2.2.2.2.2.1 ∧ (nthT b.2.2.2.2.2.2.2 i).2.2.2.2.2.2.1 ≤ 10000) ∧
    (1 ≤ (nthT b.2.2.2.2.2.2.2 i).2.2.2.2.2.2.2.1 ∧ (nthT b.2.2.2.2.2.2.2 i).2.2.2.2.2.2.2.1 ≤ 10000) := by
  have h := car_at hb h0 h1
  simp only [carOk, tOk, Bool.and_eq_true, decide_eq_true_eq] at h
  exact ⟨h.1.1.1.1.1.1.2, h.1.1.1.1.1.2, h.1.1.1.1.2, h.1.1.1.2⟩
theorem u64_nn (z : Int) : 0 ≤ IntKind.u64.wrap z := by rw [IntKind.wrap_u64]; omega
theorem b15_len {x : Int × Int} (h : (0 ≤ x.1 ∧ x.1 ≤ 255) ∧ 0 ≤ x.2 ∧ x.2 ≤ 255) : (F4 x).2.2.2.2.2.2.2.length ≤ 100 := by
  have := (b15 h).1.cn.2
  exact Nat.le_trans this (by decide)
end Go.Proofs.YtngbcgnihbjfnaaGreatDoor.Sp
end

section
/- Contracts of functions, by the evaluator (own program gen.py): overlayplay.IsState, overlayref12.IsState, overlayref13.IsState, overlayref15.end, overlayref12.nudged, rig.IsState, door.IsState, motion.IsState, door.counted, door.stay, door.nudge, newcar.watched. -/
set_option linter.unusedVariables false
set_option linter.unusedSimpArgs false
set_option maxRecDepth 100000
namespace Go.Proofs.YtngbcgnihbjfnaaGreatDoor.Sp
open Go Go.RowKit Sy
def F17 (x : Int × Int × Int × Int × Int × Int × Int) : Bool :=
  bif (((((!(Sp.F31 (x.1, (2 : Int), (32 : Int)))) || (!(Sp.F31 (x.2.1, (0 : Int), (IntKind.i64.wrap (x.1 - (1 : Int))))))) || (!(Sp.F31 (x.2.2.1, (0 : Int), (IntKind.i64.wrap (x.1 - (1 : Int))))))) || (!(Sp.F31 ((IntKind.i64.wrap (x.2.2.1 - x.2.1)), (-1 : Int), (1 : Int))))) || (!(Sp.F31 (x.2.2.2.2.1, (0 : Int), (2 : Int))))) then
    false
  else
    bif (((x.2.2.1 == x.2.1) && (x.2.2.2.1 != (0 : Int))) || ((x.2.2.1 != x.2.1) && ((!(Sp.F31 (x.2.2.2.1, (1 : Int), (10000 : Int)))) || (x.2.2.2.2.1 != (2 : Int))))) then
      false
    else
      bif (x.2.2.2.2.1 == (0 : Int)) then
        ((Sp.F31 (x.2.2.2.2.2.1, (1 : Int), (2 : Int))) && (Sp.F31 (x.2.2.2.2.2.2, (1 : Int), (10000 : Int))))
      else
        ((x.2.2.2.2.2.1 == (0 : Int)) && (x.2.2.2.2.2.2 == (0 : Int)))
def F56 (x : Int × Int × Int × Bool × Int) : Bool :=
  bif (x.1 == (0 : Int)) then
    ((x.1 == (0 : Int)) && ((x.2.1 == (0 : Int)) && ((x.2.2.1 == (0 : Int)) && ((x.2.2.2.1 == false) && (x.2.2.2.2 == (0 : Int))))))
  else
    (((((decide (x.1 > (0 : Int))) && (decide (x.1 ≤ (3 : Int)))) && (Sp.F78 x.2.1)) && (Sp.F78 x.2.2.1)) && (Sp.F78 x.2.2.2.2))
def F47 (x : Int × Int × Int × Int) : Bool :=
  bif ((((decide (x.1 < (2 : Int))) || (decide (x.1 > (32 : Int)))) || (decide (x.2.2.1 < (0 : Int)))) || (decide (x.2.2.1 > (1000000 : Int)))) then
    false
  else
    bif (x.2.1 == (0 : Int)) then
      (x.2.2.2 == (0 : Int))
    else
      bif (x.2.1 == (1 : Int)) then
        (bif (x.2.1 == (1 : Int)) then
          ((Sp.F48 (x.1, x.2.2.2)) && (Sp.F48 (x.1, (Sp.F49 x.2))))
        else
          false)
      else
        bif (x.2.1 == (2 : Int)) then
          ((Sp.F48 (x.1, x.2.2.2)) && (Sp.F48 (x.1, (Sp.F49 x.2))))
        else
          false
def F35 (x : BldT × Int × CarS × Int) : CarS × Int × Int :=
  bif ((Sp.F51 ((Sp.nthT x.1.2.2.2.2.2.2.2 x.2.1), x.2.2.1.2.1)) || (Sp.F52 ((Sp.nthT x.1.2.2.2.2.2.2.2 x.2.1), x.2.2.1.2.2.1))) then
    ((((0 : Int), (0 : Int)), ((0 : Int), (0 : Int), (0 : Int), false, (0 : Int)), ((0 : Int), (0 : Int), (0 : Int)), (0 : Int), (0 : Int), (0 : Int), true), (0 : Int), (0 : Int))
  else
    (x.2.2.1, x.2.2.2, (0 : Int))
def pre35 (x : BldT × Int × CarS × Int) : Prop := 0 ≤ x.2.1 ∧ x.2.1 < (x.1.2.2.2.2.2.2.2.length : Int)
def F59 (x : Int × Int × Int × Bool × Int) : (Int × Int × Int × Bool × Int) × Int :=
  bif ((x.1 == (3 : Int)) && x.2.2.2.1) then
    ((x.1, (Sp.F58 x.2.1), x.2.2), (5 : Int))
  else
    (((Sp.F57 (x, (3 : Int))).1, (Sp.F57 (x, (3 : Int))).2.1, (Sp.F57 (x, (3 : Int))).2.2.1, true, (Sp.F57 (x, (3 : Int))).2.2.2.2), (5 : Int))
def F12 (x : Int × Int × Int × Int × Int × Int × Int) : Bool :=
  bif ((((!(Sp.F21 (x.1, (2 : Int), (32 : Int)))) || (!(Sp.F21 (x.2.1, (0 : Int), (IntKind.i64.wrap (x.1 - (1 : Int))))))) || (!(Sp.F21 (x.2.2.1, (0 : Int), (IntKind.i64.wrap (x.1 - (1 : Int))))))) || (!(Sp.F21 ((IntKind.i64.wrap (x.2.2.1 - x.2.1)), (-1 : Int), (1 : Int))))) then
    false
  else
    bif (((x.2.1 == x.2.2.1) && (x.2.2.2.1 != (0 : Int))) || ((x.2.1 != x.2.2.1) && ((!(Sp.F21 (x.2.2.2.1, (1 : Int), (10000 : Int)))) || (x.2.2.2.2.1 != (2 : Int))))) then
      false
    else
      bif (x.2.2.2.2.1 == (0 : Int)) then
        (((x.2.2.2.2.2.1 == (1 : Int)) || (x.2.2.2.2.2.1 == (2 : Int))) && (Sp.F21 (x.2.2.2.2.2.2, (1 : Int), (10000 : Int))))
      else
        ((((x.2.2.2.2.1 == (1 : Int)) || (x.2.2.2.2.1 == (2 : Int))) && (x.2.2.2.2.2.1 == (0 : Int))) && (x.2.2.2.2.2.2 == (0 : Int)))
def F62 (x : Int × Int × Int × Bool × Int) : Bool :=
  bif (x.1 == (0 : Int)) then
    ((x.1 == (0 : Int)) && ((x.2.1 == (0 : Int)) && ((x.2.2.1 == (0 : Int)) && ((x.2.2.2.1 == false) && (x.2.2.2.2 == (0 : Int))))))
  else
    (((((decide (x.1 ≥ (0 : Int))) && (decide (x.1 ≤ (3 : Int)))) && (Sp.F82 x.2.1)) && (Sp.F82 x.2.2.1)) && (Sp.F82 x.2.2.2.2))
def F63 (x : Int × Int × Int × Int) : Bool :=
  bif ((((((decide (x.1 < (2 : Int))) || (decide (x.1 > (32 : Int)))) || (decide (x.2.2.1 < (0 : Int)))) || (decide (x.2.2.1 > (1000000 : Int)))) || (decide (x.2.2.2 < (0 : Int)))) || (decide (x.2.2.2 ≥ x.1))) then
    false
  else
    bif (x.2.1 == (0 : Int)) then
      (x.2.2.2 == (0 : Int))
    else
      (Sp.F83 (x.1, x.2.2.2, x.2.1)).2
def F85 (x : Int × Int × Int × Bool × Int) : Int × Int × Int × Bool × Int :=
  bif (x.2.2.1 != (0 : Int)) then
    (x.1, x.2.1, (Sp.F89 x.2.2.1), x.2.2.2)
  else
    x
def F87 (x : (Int × Int × Int × Bool × Int) × Int) : (Int × Int × Int × Bool × Int) × Int :=
  ((x.1.1, (Sp.F89 x.1.2.1), x.1.2.2), x.2)
def F88 (x : Int × Int × Int × Bool × Int) : (Int × Int × Int × Bool × Int) × Int :=
  (((Sp.F86 (x, (3 : Int))).1, (Sp.F86 (x, (3 : Int))).2.1, (Sp.F86 (x, (3 : Int))).2.2.1, true, (Sp.F86 (x, (3 : Int))).2.2.2.2), (5 : Int))
def F25 (x : CarT × CarS × Int) : CarS × Int :=
  bif ((Sp.F44 (x.1, x.2.1.2.1)) || (Sp.F45 (x.1, x.2.1.2.2.1))) then
    ((((0 : Int), (0 : Int)), ((0 : Int), (0 : Int), (0 : Int), false, (0 : Int)), ((0 : Int), (0 : Int), (0 : Int)), (0 : Int), (0 : Int), (0 : Int), true), (0 : Int))
  else
    x.2
end Go.Proofs.YtngbcgnihbjfnaaGreatDoor.Sp
namespace Go.Proofs.YtngbcgnihbjfnaaGreatDoor.Sy
open Go Go.RowKit Sp
def ct17 : Ct := { p := (Ty.pair ty3 ty39), psh := [none, some 6], r := ty4, rsh := (Rsh.one (none)), pre := none, fresh := none, F := Sp.F17 }
theorem ok17 : CtOk Tryz.prog gdS 17 ct17 :=
  fn_okU (ctxOkP pgokPmV0 fvok_none gokGmV0 []) rfl Tryz.func17 (p := (Ty.pair ty3 ty39)) (psh := [none, some 6]) (r := ty4) (rsh := (Rsh.one (none))) (pre := none) (fresh := none) (F := Sp.F17) (L := noL) (c := bodyOf Tryz.f17) (dflt := Ty.dflt ty4) rfl (no_loops)
    (fun x fx _ => triv_of (by kernel_rfl)) (fun x => by kernel_rfl)
def ct56 : Ct := { p := ty32, psh := [some 5], r := ty4, rsh := (Rsh.one (none)), pre := none, fresh := none, F := Sp.F56 }
theorem ok56 : CtOk Tryz.prog gdS 56 ct56 :=
  fn_okU (ctxOkP pgokPmV0 fvok_none gokGmV0 []) rfl Tryz.func56 (p := ty32) (psh := [some 5]) (r := ty4) (rsh := (Rsh.one (none))) (pre := none) (fresh := none) (F := Sp.F56) (L := noL) (c := bodyOf Tryz.f56) (dflt := Ty.dflt ty4) rfl (no_loops)
    (fun x fx _ => triv_of (by kernel_rfl)) (fun x => by kernel_rfl)
def ct47 : Ct := { p := (Ty.pair ty3 ty34), psh := [none, some 3], r := ty4, rsh := (Rsh.one (none)), pre := none, fresh := none, F := Sp.F47 }
theorem ok47 : CtOk Tryz.prog gdS 47 ct47 :=
  fn_okU (ctxOkP pgokPmV0 fvok_none gokGmV0 []) rfl Tryz.func47 (p := (Ty.pair ty3 ty34)) (psh := [none, some 3]) (r := ty4) (rsh := (Rsh.one (none))) (pre := none) (fresh := none) (F := Sp.F47) (L := noL) (c := bodyOf Tryz.f47) (dflt := Ty.dflt ty4) rfl (no_loops)
    (fun x fx _ => triv_of (by kernel_rfl)) (fun x => by kernel_rfl)
def ct35 : Ct := { p := (Ty.pair ty27 (Ty.pair ty3 (Ty.pair ty37 ty3))), psh := [some 8, none, some 14, none], r := (Ty.pair ty37 (Ty.pair ty3 ty45)), rsh := (Rsh.tup [some 14, none, none]), pre := some Sp.pre35, fresh := none, F := Sp.F35 }
theorem ok35 : CtOk Tryz.prog gdS 35 ct35 :=
  fn_okU (ctxOkP pgokPmV0 fvok_none gokGmV0 []) rfl Tryz.func35 (p := (Ty.pair ty27 (Ty.pair ty3 (Ty.pair ty37 ty3)))) (psh := [some 8, none, some 14, none]) (r := (Ty.pair ty37 (Ty.pair ty3 ty45))) (rsh := (Rsh.tup [some 14, none, none])) (pre := some Sp.pre35) (fresh := none) (F := Sp.F35) (L := noL) (c := bodyOf Tryz.f35) (dflt := Ty.dflt (Ty.pair ty37 (Ty.pair ty3 ty45))) rfl (no_loops)
    (fun x fx hq => have h := hq _ rfl; safe_of (S := (((0 ≤ x.2.1 ∧ x.2.1 < ((x.1.2.2.2.2.2.2.2).length : Int)) ∧ ((((Sp.F51 ((Sp.nthT x.1.2.2.2.2.2.2.2 x.2.1), x.2.2.1.2.1)) = false → 0 ≤ x.2.1 ∧ x.2.1 < ((x.1.2.2.2.2.2.2.2).length : Int))) ∧ ((((Sp.F51 ((Sp.nthT x.1.2.2.2.2.2.2.2 x.2.1), x.2.2.1.2.1)) || (Sp.F52 ((Sp.nthT x.1.2.2.2.2.2.2.2 x.2.1), x.2.2.1.2.2.1))) = true → True) ∧ (((Sp.F51 ((Sp.nthT x.1.2.2.2.2.2.2.2 x.2.1), x.2.2.1.2.1)) || (Sp.F52 ((Sp.nthT x.1.2.2.2.2.2.2.2 x.2.1), x.2.2.1.2.2.1))) = false → True)))))) (by kernel_rfl) (by
  try dsimp only [Ty.den] at *
  unfold Sp.pre35 at h
  repeat' (first | exact trivial | exact h | apply And.intro | intro _))) (fun x => by kernel_rfl)
def ct59 : Ct := { p := ty32, psh := [some 5], r := (Ty.pair ty32 ty3), rsh := (Rsh.tup [some 5, none]), pre := none, fresh := none, F := Sp.F59 }
theorem ok59 : CtOk Tryz.prog gdS 59 ct59 :=
  fn_okU (ctxOkP pgokPmV0 fvok_none gokGmV0 []) rfl Tryz.func59 (p := ty32) (psh := [some 5]) (r := (Ty.pair ty32 ty3)) (rsh := (Rsh.tup [some 5, none])) (pre := none) (fresh := none) (F := Sp.F59) (L := noL) (c := bodyOf Tryz.f59) (dflt := Ty.dflt (Ty.pair ty32 ty3)) rfl (no_loops)
    (fun x fx _ => triv_of (by kernel_rfl)) (fun x => by kernel_rfl)
def ct12 : Ct := { p := (Ty.pair ty3 ty39), psh := [none, some 6], r := ty4, rsh := (Rsh.one (none)), pre := none, fresh := none, F := Sp.F12 }
theorem ok12 : CtOk Tryz.prog gdS 12 ct12 :=
  fn_okU (ctxOkP pgokPmV0 fvok_none gokGmV0 []) rfl Tryz.func12 (p := (Ty.pair ty3 ty39)) (psh := [none, some 6]) (r := ty4) (rsh := (Rsh.one (none))) (pre := none) (fresh := none) (F := Sp.F12) (L := noL) (c := bodyOf Tryz.f12) (dflt := Ty.dflt ty4) rfl (no_loops)
    (fun x fx _ => triv_of (by kernel_rfl)) (fun x => by kernel_rfl)
def ct62 : Ct := { p := ty32, psh := [some 5], r := ty4, rsh := (Rsh.one (none)), pre := none, fresh := none, F := Sp.F62 }
theorem ok62 : CtOk Tryz.prog gdS 62 ct62 :=
  fn_okU (ctxOkP pgokPmV0 fvok_none gokGmV0 []) rfl Tryz.func62 (p := ty32) (psh := [some 5]) (r := ty4) (rsh := (Rsh.one (none))) (pre := none) (fresh := none) (F := Sp.F62) (L := noL) (c := bodyOf Tryz.f62) (dflt := Ty.dflt ty4) rfl (no_loops)
    (fun x fx _ => triv_of (by kernel_rfl)) (fun x => by kernel_rfl)
def ct63 : Ct := { p := (Ty.pair ty3 ty34), psh := [none, some 3], r := ty4, rsh := (Rsh.one (none)), pre := none, fresh := none, F := Sp.F63 }
theorem ok63 : CtOk Tryz.prog gdS 63 ct63 :=
  fn_okU (ctxOkP pgokPmV0 fvok_none gokGmV0 []) rfl Tryz.func63 (p := (Ty.pair ty3 ty34)) (psh := [none, some 3]) (r := ty4) (rsh := (Rsh.one (none))) (pre := none) (fresh := none) (F := Sp.F63) (L := noL) (c := bodyOf Tryz.f63) (dflt := Ty.dflt ty4) rfl (no_loops)
    (fun x fx _ => triv_of (by kernel_rfl)) (fun x => by kernel_rfl)
def ct85 : Ct := { p := ty32, psh := [some 5], r := ty32, rsh := (Rsh.one (some 5)), pre := none, fresh := none, F := Sp.F85 }
theorem ok85 : CtOk Tryz.prog gdS 85 ct85 :=
  fn_okU (ctxOkP pgokPmV0 fvok_none gokGmV0 []) rfl Tryz.func85 (p := ty32) (psh := [some 5]) (r := ty32) (rsh := (Rsh.one (some 5))) (pre := none) (fresh := none) (F := Sp.F85) (L := noL) (c := bodyOf Tryz.f85) (dflt := Ty.dflt ty32) rfl (no_loops)
    (fun x fx _ => triv_of (by kernel_rfl)) (fun x => by kernel_rfl)
def ct87 : Ct := { p := (Ty.pair ty32 ty3), psh := [some 5, none], r := (Ty.pair ty32 ty3), rsh := (Rsh.tup [some 5, none]), pre := none, fresh := none, F := Sp.F87 }
theorem ok87 : CtOk Tryz.prog gdS 87 ct87 :=
  fn_okU (ctxOkP pgokPmV0 fvok_none gokGmV0 []) rfl Tryz.func87 (p := (Ty.pair ty32 ty3)) (psh := [some 5, none]) (r := (Ty.pair ty32 ty3)) (rsh := (Rsh.tup [some 5, none])) (pre := none) (fresh := none) (F := Sp.F87) (L := noL) (c := bodyOf Tryz.f87) (dflt := Ty.dflt (Ty.pair ty32 ty3)) rfl (no_loops)
    (fun x fx _ => triv_of (by kernel_rfl)) (fun x => by kernel_rfl)
def ct88 : Ct := { p := ty32, psh := [some 5], r := (Ty.pair ty32 ty3), rsh := (Rsh.tup [some 5, none]), pre := none, fresh := none, F := Sp.F88 }
theorem ok88 : CtOk Tryz.prog gdS 88 ct88 :=
  fn_okU (ctxOkP pgokPmV0 fvok_none gokGmV0 []) rfl Tryz.func88 (p := ty32) (psh := [some 5]) (r := (Ty.pair ty32 ty3)) (rsh := (Rsh.tup [some 5, none])) (pre := none) (fresh := none) (F := Sp.F88) (L := noL) (c := bodyOf Tryz.f88) (dflt := Ty.dflt (Ty.pair ty32 ty3)) rfl (no_loops)
    (fun x fx _ => triv_of (by kernel_rfl)) (fun x => by kernel_rfl)
def ct25 : Ct := { p := (Ty.pair ty53 (Ty.pair ty37 ty3)), psh := [some 9, some 14, none], r := (Ty.pair ty37 ty3), rsh := (Rsh.tup [some 14, none]), pre := none, fresh := none, F := Sp.F25 }
theorem ok25 : CtOk Tryz.prog gdS 25 ct25 :=
  fn_okU (ctxOkP pgokPmV0 fvok_none gokGmV0 []) rfl Tryz.func25 (p := (Ty.pair ty53 (Ty.pair ty37 ty3))) (psh := [some 9, some 14, none]) (r := (Ty.pair ty37 ty3)) (rsh := (Rsh.tup [some 14, none])) (pre := none) (fresh := none) (F := Sp.F25) (L := noL) (c := bodyOf Tryz.f25) (dflt := Ty.dflt (Ty.pair ty37 ty3)) rfl (no_loops)
    (fun x fx _ => triv_of (by kernel_rfl)) (fun x => by kernel_rfl)
def GmV1 : List (Nat × Ct) := (17, ct17) :: (56, ct56) :: (47, ct47) :: (35, ct35) :: (59, ct59) :: (12, ct12) :: (62, ct62) :: (63, ct63) :: (85, ct85) :: (87, ct87) :: (88, ct88) :: (25, ct25) :: GmV0
theorem gokGmV1 : GOk GmV1 := gok_cons ok17 ⟨_, Tryz.func17, by kernel_rfl, by kernel_rfl⟩ (gok_cons ok56 ⟨_, Tryz.func56, by kernel_rfl, by kernel_rfl⟩ (gok_cons ok47 ⟨_, Tryz.func47, by kernel_rfl, by kernel_rfl⟩ (gok_cons ok35 ⟨_, Tryz.func35, by kernel_rfl, by kernel_rfl⟩ (gok_cons ok59 ⟨_, Tryz.func59, by kernel_rfl, by kernel_rfl⟩ (gok_cons ok12 ⟨_, Tryz.func12, by kernel_rfl, by kernel_rfl⟩ (gok_cons ok62 ⟨_, Tryz.func62, by kernel_rfl, by kernel_rfl⟩ (gok_cons ok63 ⟨_, Tryz.func63, by kernel_rfl, by kernel_rfl⟩ (gok_cons ok85 ⟨_, Tryz.func85, by kernel_rfl, by kernel_rfl⟩ (gok_cons ok87 ⟨_, Tryz.func87, by kernel_rfl, by kernel_rfl⟩ (gok_cons ok88 ⟨_, Tryz.func88, by kernel_rfl, by kernel_rfl⟩ (gok_cons ok25 ⟨_, Tryz.func25, by kernel_rfl, by kernel_rfl⟩ (gokGmV0))))))))))))
end Go.Proofs.YtngbcgnihbjfnaaGreatDoor.Sy
end

section
/- Contracts of functions, by the evaluator (own program gen.py): overlayref15.IsState, overlayref13.Step, overlayref12.Step, overlayplay.Step, newcar.IsState, motion.Step, door.Step, rig.Step. -/
set_option linter.unusedVariables false
set_option linter.unusedSimpArgs false
set_option maxRecDepth 100000
namespace Go.Proofs.YtngbcgnihbjfnaaGreatDoor.Sp
open Go Go.RowKit Sy
def F46 (x : BldT × (Int × Int) × (Int × Int × Int × Bool × Int) × (Int × Int × Int) × Int × Int × Int × Bool) : Bool :=
  bif ((Sp.F69 x.1) != (0 : Int)) then
    false
  else
    bif x.2.2.2.2.2.2.2 then
      (((x.2.1.1 == (0 : Int)) && (x.2.1.2 == (0 : Int))) && (((x.2.2.1.1 == (0 : Int)) && ((x.2.2.1.2.1 == (0 : Int)) && ((x.2.2.1.2.2.1 == (0 : Int)) && ((x.2.2.1.2.2.2.1 == false) && (x.2.2.1.2.2.2.2 == (0 : Int)))))) && (((x.2.2.2.1.1 == (0 : Int)) && ((x.2.2.2.1.2.1 == (0 : Int)) && (x.2.2.2.1.2.2 == (0 : Int)))) && ((x.2.2.2.2.1 == (0 : Int)) && ((x.2.2.2.2.2.1 == (0 : Int)) && ((x.2.2.2.2.2.2.1 == (0 : Int)) && (x.2.2.2.2.2.2.2 == true)))))))
    else
      bif ((((!(Sp.F70 x.2.1)) || (!(Sp.F56 x.2.2.1))) || (!(Sp.F47 (x.1.1, x.2.2.2.1)))) || ((!((x.2.2.1.1 == (0 : Int)) && ((x.2.2.1.2.1 == (0 : Int)) && ((x.2.2.1.2.2.1 == (0 : Int)) && ((x.2.2.1.2.2.2.1 == false) && (x.2.2.1.2.2.2.2 == (0 : Int))))))) && (!((x.2.2.2.1.1 == (0 : Int)) && ((x.2.2.2.1.2.1 == (0 : Int)) && (x.2.2.2.1.2.2 == (0 : Int))))))) then
        false
      else
        ((((((Int.fdiv (IntKind.u64.wrap x.2.2.2.2.1) (2 ^ (min ((IntKind.u64.wrap x.1.1)).toNat IntKind.u64.bits))) == (0 : Int)) && (decide (x.2.2.2.2.2.1 ≥ (0 : Int)))) && (decide (x.2.2.2.2.2.1 ≤ (2 : Int)))) && (decide (x.2.2.2.2.2.2.1 ≥ (0 : Int)))) && (decide (x.2.2.2.2.2.2.1 ≤ (1000000 : Int))))
def F34 (x : Int × (Int × Int × Int) × FbT × Int) : (Int × Int × Int) × Int × Bool :=
  bif ((!(Sp.F47 (x.1, x.2.1))) || (!(Sp.F48 (x.1, x.2.2.1.1)))) then
    (((0 : Int), (0 : Int), (0 : Int)), (0 : Int), false)
  else
    bif (x.2.1.1 != (0 : Int)) then
      (bif (x.2.2.1.2.1 && (x.2.2.1.1 == (Sp.F49 x.2.1))) then
        (((0 : Int), (0 : Int), (0 : Int)), (0 : Int), true)
      else
        ((Sp.F50 x.2.1), x.2.1.1, false))
    else
      bif (!x.2.2.1.2.1) then
        ((Sp.F50 x.2.1), (0 : Int), false)
      else
        bif ((x.2.2.2 != (0 : Int)) && (Sp.F47 (x.1, x.2.2.2, (0 : Int), x.2.2.1.1))) then
          ((x.2.2.2, (0 : Int), x.2.2.1.1), x.2.2.2, false)
        else
          (((0 : Int), (0 : Int), (0 : Int)), (0 : Int), false)
def F37 (x : CarT × (Int × Int × Int × Bool × Int) × Int × Bool × Bool) : (Int × Int × Int × Bool × Int) × Int :=
  bif (!(Sp.F56 x.2.1)) then
    (bif ((0 : Int) == (0 : Int)) then
      (bif x.2.2.2.2 then
        ((Sp.F57 (((0 : Int), (0 : Int), (0 : Int), false, (0 : Int)), (1 : Int))), (3 : Int))
      else
        (((0 : Int), (0 : Int), (0 : Int), false, (0 : Int)), (0 : Int)))
    else
      bif (decide ((0 : Int) > (0 : Int))) then
        (bif (((0 : Int) == (1 : Int)) && (x.2.2.1 == (1 : Int))) then
          (((Sp.F57 (((0 : Int), (0 : Int), (Sp.F58 (0 : Int)), false, (0 : Int)), (2 : Int))).1, (Sp.F57 (((0 : Int), (0 : Int), (Sp.F58 (0 : Int)), false, (0 : Int)), (2 : Int))).2.1, (max (1 : Int) ((Sp.F57 (((0 : Int), (0 : Int), (Sp.F58 (0 : Int)), false, (0 : Int)), (2 : Int))).2.2.1)), (Sp.F57 (((0 : Int), (0 : Int), (Sp.F58 (0 : Int)), false, (0 : Int)), (2 : Int))).2.2.2), (0 : Int))
        else
          bif (((0 : Int) == (3 : Int)) && (x.2.2.1 == (2 : Int))) then
            (((0 : Int), (0 : Int), (0 : Int), false, (0 : Int)), (0 : Int))
          else
            bif (decide ((Sp.F58 (0 : Int)) > x.1.2.2.2.2.2.2.2.1)) then
              (Sp.F59 ((0 : Int), (0 : Int), (Sp.F58 (0 : Int)), false, (0 : Int)))
            else
              bif ((((0 : Int) == (2 : Int)) && (decide ((IntKind.i64.wrap ((0 : Int) + (1 : Int))) ≥ x.1.2.2.2.2.2.2.1))) && (!x.2.2.2.1)) then
                ((Sp.F57 (((0 : Int), (0 : Int), (Sp.F58 (0 : Int)), false, (0 : Int)), (3 : Int))), (4 : Int))
              else
                bif (((0 : Int) == (3 : Int)) && x.2.2.2.1) then
                  (((Sp.F57 (((0 : Int), (0 : Int), (Sp.F58 (0 : Int)), false, (0 : Int)), (1 : Int))).1, (Sp.F57 (((0 : Int), (0 : Int), (Sp.F58 (0 : Int)), false, (0 : Int)), (1 : Int))).2.1, (Sp.F57 (((0 : Int), (0 : Int), (Sp.F58 (0 : Int)), false, (0 : Int)), (1 : Int))).2.2.1, (Sp.F57 (((0 : Int), (0 : Int), (Sp.F58 (0 : Int)), false, (0 : Int)), (1 : Int))).2.2.2.1, (Sp.F58 ((Sp.F57 (((0 : Int), (0 : Int), (Sp.F58 (0 : Int)), false, (0 : Int)), (1 : Int))).2.2.2.2))), (3 : Int))
                else
                  (((0 : Int), (Sp.F58 (0 : Int)), (Sp.F58 (0 : Int)), false, (0 : Int)), (Sp.nthT [(0 : Int), (3 : Int), (0 : Int), (4 : Int)] (0 : Int))))
      else
        bif (((0 : Int) == (1 : Int)) && (x.2.2.1 == (1 : Int))) then
          (((Sp.F57 (((0 : Int), (0 : Int), (0 : Int), false, (0 : Int)), (2 : Int))).1, (Sp.F57 (((0 : Int), (0 : Int), (0 : Int), false, (0 : Int)), (2 : Int))).2.1, (max (1 : Int) ((Sp.F57 (((0 : Int), (0 : Int), (0 : Int), false, (0 : Int)), (2 : Int))).2.2.1)), (Sp.F57 (((0 : Int), (0 : Int), (0 : Int), false, (0 : Int)), (2 : Int))).2.2.2), (0 : Int))
        else
          bif (((0 : Int) == (3 : Int)) && (x.2.2.1 == (2 : Int))) then
            (((0 : Int), (0 : Int), (0 : Int), false, (0 : Int)), (0 : Int))
          else
            bif (decide ((0 : Int) > x.1.2.2.2.2.2.2.2.1)) then
              (Sp.F59 ((0 : Int), (0 : Int), (0 : Int), false, (0 : Int)))
            else
              bif ((((0 : Int) == (2 : Int)) && (decide ((IntKind.i64.wrap ((0 : Int) + (1 : Int))) ≥ x.1.2.2.2.2.2.2.1))) && (!x.2.2.2.1)) then
                ((Sp.F57 (((0 : Int), (0 : Int), (0 : Int), false, (0 : Int)), (3 : Int))), (4 : Int))
              else
                bif (((0 : Int) == (3 : Int)) && x.2.2.2.1) then
                  (((Sp.F57 (((0 : Int), (0 : Int), (0 : Int), false, (0 : Int)), (1 : Int))).1, (Sp.F57 (((0 : Int), (0 : Int), (0 : Int), false, (0 : Int)), (1 : Int))).2.1, (Sp.F57 (((0 : Int), (0 : Int), (0 : Int), false, (0 : Int)), (1 : Int))).2.2.1, (Sp.F57 (((0 : Int), (0 : Int), (0 : Int), false, (0 : Int)), (1 : Int))).2.2.2.1, (Sp.F58 ((Sp.F57 (((0 : Int), (0 : Int), (0 : Int), false, (0 : Int)), (1 : Int))).2.2.2.2))), (3 : Int))
                else
                  (((0 : Int), (Sp.F58 (0 : Int)), (0 : Int), false, (0 : Int)), (Sp.nthT [(0 : Int), (3 : Int), (0 : Int), (4 : Int)] (0 : Int))))
  else
    bif (x.2.1.1 == (0 : Int)) then
      (bif x.2.2.2.2 then
        ((Sp.F57 (x.2.1, (1 : Int))), (3 : Int))
      else
        (x.2.1, (0 : Int)))
    else
      bif (decide (x.2.1.2.2.1 > (0 : Int))) then
        (bif ((x.2.1.1 == (1 : Int)) && (x.2.2.1 == (1 : Int))) then
          (((Sp.F57 ((x.2.1.1, x.2.1.2.1, (Sp.F58 x.2.1.2.2.1), x.2.1.2.2.2), (2 : Int))).1, (Sp.F57 ((x.2.1.1, x.2.1.2.1, (Sp.F58 x.2.1.2.2.1), x.2.1.2.2.2), (2 : Int))).2.1, (max (1 : Int) ((Sp.F57 ((x.2.1.1, x.2.1.2.1, (Sp.F58 x.2.1.2.2.1), x.2.1.2.2.2), (2 : Int))).2.2.1)), (Sp.F57 ((x.2.1.1, x.2.1.2.1, (Sp.F58 x.2.1.2.2.1), x.2.1.2.2.2), (2 : Int))).2.2.2), (0 : Int))
        else
          bif ((x.2.1.1 == (3 : Int)) && (x.2.2.1 == (2 : Int))) then
            (((0 : Int), (0 : Int), (0 : Int), false, (0 : Int)), (0 : Int))
          else
            bif (decide ((Sp.F58 x.2.1.2.2.1) > x.1.2.2.2.2.2.2.2.1)) then
              (Sp.F59 (x.2.1.1, x.2.1.2.1, (Sp.F58 x.2.1.2.2.1), x.2.1.2.2.2))
            else
              bif (((x.2.1.1 == (2 : Int)) && (decide ((IntKind.i64.wrap (x.2.1.2.1 + (1 : Int))) ≥ x.1.2.2.2.2.2.2.1))) && (!x.2.2.2.1)) then
                ((Sp.F57 ((x.2.1.1, x.2.1.2.1, (Sp.F58 x.2.1.2.2.1), x.2.1.2.2.2), (3 : Int))), (4 : Int))
              else
                bif ((x.2.1.1 == (3 : Int)) && x.2.2.2.1) then
                  (((Sp.F57 ((x.2.1.1, x.2.1.2.1, (Sp.F58 x.2.1.2.2.1), x.2.1.2.2.2), (1 : Int))).1, (Sp.F57 ((x.2.1.1, x.2.1.2.1, (Sp.F58 x.2.1.2.2.1), x.2.1.2.2.2), (1 : Int))).2.1, (Sp.F57 ((x.2.1.1, x.2.1.2.1, (Sp.F58 x.2.1.2.2.1), x.2.1.2.2.2), (1 : Int))).2.2.1, (Sp.F57 ((x.2.1.1, x.2.1.2.1, (Sp.F58 x.2.1.2.2.1), x.2.1.2.2.2), (1 : Int))).2.2.2.1, (Sp.F58 ((Sp.F57 ((x.2.1.1, x.2.1.2.1, (Sp.F58 x.2.1.2.2.1), x.2.1.2.2.2), (1 : Int))).2.2.2.2))), (3 : Int))
                else
                  ((x.2.1.1, (Sp.F58 x.2.1.2.1), (Sp.F58 x.2.1.2.2.1), x.2.1.2.2.2), (Sp.nthT [(0 : Int), (3 : Int), (0 : Int), (4 : Int)] x.2.1.1)))
      else
        bif ((x.2.1.1 == (1 : Int)) && (x.2.2.1 == (1 : Int))) then
          (((Sp.F57 (x.2.1, (2 : Int))).1, (Sp.F57 (x.2.1, (2 : Int))).2.1, (max (1 : Int) ((Sp.F57 (x.2.1, (2 : Int))).2.2.1)), (Sp.F57 (x.2.1, (2 : Int))).2.2.2), (0 : Int))
        else
          bif ((x.2.1.1 == (3 : Int)) && (x.2.2.1 == (2 : Int))) then
            (((0 : Int), (0 : Int), (0 : Int), false, (0 : Int)), (0 : Int))
          else
            bif (decide (x.2.1.2.2.1 > x.1.2.2.2.2.2.2.2.1)) then
              (Sp.F59 x.2.1)
            else
              bif (((x.2.1.1 == (2 : Int)) && (decide ((IntKind.i64.wrap (x.2.1.2.1 + (1 : Int))) ≥ x.1.2.2.2.2.2.2.1))) && (!x.2.2.2.1)) then
                ((Sp.F57 (x.2.1, (3 : Int))), (4 : Int))
              else
                bif ((x.2.1.1 == (3 : Int)) && x.2.2.2.1) then
                  (((Sp.F57 (x.2.1, (1 : Int))).1, (Sp.F57 (x.2.1, (1 : Int))).2.1, (Sp.F57 (x.2.1, (1 : Int))).2.2.1, (Sp.F57 (x.2.1, (1 : Int))).2.2.2.1, (Sp.F58 ((Sp.F57 (x.2.1, (1 : Int))).2.2.2.2))), (3 : Int))
                else
                  ((x.2.1.1, (Sp.F58 x.2.1.2.1), x.2.1.2.2), (Sp.nthT [(0 : Int), (3 : Int), (0 : Int), (4 : Int)] x.2.1.1))
def F20 (x : Int × (Int × Int × Int × Int × Int × Int) × Int × Int) : Int × Int × Int × Int × Int × Int :=
  bif (!(Sp.F17 (x.1, x.2.1))) then
    (Sp.F10 (0 : Int))
  else
    bif (decide (x.2.1.2.2.1 > (0 : Int))) then
      (Sp.F38 (x.2.1.1, x.2.1.2.1, (IntKind.i64.wrap (x.2.1.2.2.1 - (1 : Int))), x.2.1.2.2.2))
    else
      bif (x.2.2.1 == (1 : Int)) then
        (bif (x.2.2.1 == (2 : Int)) then
          (bif (((x.2.1.2.2.2.1 == (2 : Int)) && ((IntKind.i64.wrap ((IntKind.i64.wrap (x.2.1.1 + (1 : Int))) - (1 : Int))) != x.2.1.1)) && (Sp.F31 ((IntKind.i64.wrap ((IntKind.i64.wrap (x.2.1.1 + (1 : Int))) - (1 : Int))), (0 : Int), (IntKind.i64.wrap (x.1 - (1 : Int)))))) then
            (Sp.F38 (x.2.1.1, (IntKind.i64.wrap ((IntKind.i64.wrap (x.2.1.1 + (1 : Int))) - (1 : Int))), (IntKind.i64.wrap ((max (1 : Int) (min x.2.2.2 (10000 : Int))) - (1 : Int))), x.2.1.2.2.2))
          else
            bif (x.2.2.1 == (3 : Int)) then
              (bif ((x.2.2.1 == (4 : Int)) || (x.2.2.1 == (5 : Int))) then
                (bif (((2 : Int) == (0 : Int)) || ((2 : Int) == x.2.1.2.2.2.1)) then
                  x.2.1
                else
                  bif ((x.2.1.2.2.2.1 == (0 : Int)) && ((2 : Int) == x.2.1.2.2.2.2.1)) then
                    (bif ((IntKind.i64.wrap (x.2.1.2.2.2.2.2 - (1 : Int))) == (0 : Int)) then
                      (x.2.1.1, x.2.1.2.1, x.2.1.2.2.1, (2 : Int), (0 : Int), (IntKind.i64.wrap (x.2.1.2.2.2.2.2 - (1 : Int))))
                    else
                      (x.2.1.1, x.2.1.2.1, x.2.1.2.2.1, x.2.1.2.2.2.1, x.2.1.2.2.2.2.1, (IntKind.i64.wrap (x.2.1.2.2.2.2.2 - (1 : Int)))))
                  else
                    bif ((IntKind.i64.wrap ((max (1 : Int) (min x.2.2.2 (10000 : Int))) - (1 : Int))) == (0 : Int)) then
                      (x.2.1.1, x.2.1.2.1, x.2.1.2.2.1, (2 : Int), (0 : Int), (IntKind.i64.wrap ((max (1 : Int) (min x.2.2.2 (10000 : Int))) - (1 : Int))))
                    else
                      (x.2.1.1, x.2.1.2.1, x.2.1.2.2.1, (0 : Int), (2 : Int), (IntKind.i64.wrap ((max (1 : Int) (min x.2.2.2 (10000 : Int))) - (1 : Int)))))
              else
                bif (((1 : Int) == (0 : Int)) || ((1 : Int) == x.2.1.2.2.2.1)) then
                  x.2.1
                else
                  bif ((x.2.1.2.2.2.1 == (0 : Int)) && ((1 : Int) == x.2.1.2.2.2.2.1)) then
                    (bif ((IntKind.i64.wrap (x.2.1.2.2.2.2.2 - (1 : Int))) == (0 : Int)) then
                      (x.2.1.1, x.2.1.2.1, x.2.1.2.2.1, (1 : Int), (0 : Int), (IntKind.i64.wrap (x.2.1.2.2.2.2.2 - (1 : Int))))
                    else
                      (x.2.1.1, x.2.1.2.1, x.2.1.2.2.1, x.2.1.2.2.2.1, x.2.1.2.2.2.2.1, (IntKind.i64.wrap (x.2.1.2.2.2.2.2 - (1 : Int)))))
                  else
                    bif ((IntKind.i64.wrap ((max (1 : Int) (min x.2.2.2 (10000 : Int))) - (1 : Int))) == (0 : Int)) then
                      (x.2.1.1, x.2.1.2.1, x.2.1.2.2.1, (1 : Int), (0 : Int), (IntKind.i64.wrap ((max (1 : Int) (min x.2.2.2 (10000 : Int))) - (1 : Int))))
                    else
                      (x.2.1.1, x.2.1.2.1, x.2.1.2.2.1, (0 : Int), (1 : Int), (IntKind.i64.wrap ((max (1 : Int) (min x.2.2.2 (10000 : Int))) - (1 : Int)))))
            else
              bif ((x.2.2.1 == (4 : Int)) || (x.2.2.1 == (5 : Int))) then
                (bif (((2 : Int) == (0 : Int)) || ((2 : Int) == x.2.1.2.2.2.1)) then
                  x.2.1
                else
                  bif ((x.2.1.2.2.2.1 == (0 : Int)) && ((2 : Int) == x.2.1.2.2.2.2.1)) then
                    (bif ((IntKind.i64.wrap (x.2.1.2.2.2.2.2 - (1 : Int))) == (0 : Int)) then
                      (x.2.1.1, x.2.1.2.1, x.2.1.2.2.1, (2 : Int), (0 : Int), (IntKind.i64.wrap (x.2.1.2.2.2.2.2 - (1 : Int))))
                    else
                      (x.2.1.1, x.2.1.2.1, x.2.1.2.2.1, x.2.1.2.2.2.1, x.2.1.2.2.2.2.1, (IntKind.i64.wrap (x.2.1.2.2.2.2.2 - (1 : Int)))))
                  else
                    bif ((IntKind.i64.wrap ((max (1 : Int) (min x.2.2.2 (10000 : Int))) - (1 : Int))) == (0 : Int)) then
                      (x.2.1.1, x.2.1.2.1, x.2.1.2.2.1, (2 : Int), (0 : Int), (IntKind.i64.wrap ((max (1 : Int) (min x.2.2.2 (10000 : Int))) - (1 : Int))))
                    else
                      (x.2.1.1, x.2.1.2.1, x.2.1.2.2.1, (0 : Int), (2 : Int), (IntKind.i64.wrap ((max (1 : Int) (min x.2.2.2 (10000 : Int))) - (1 : Int)))))
              else
                bif ((x.2.1.2.2.2.2.1 == (0 : Int)) || (x.2.1.2.2.2.2.1 == x.2.1.2.2.2.1)) then
                  x.2.1
                else
                  bif ((x.2.1.2.2.2.1 == (0 : Int)) && (x.2.1.2.2.2.2.1 == x.2.1.2.2.2.2.1)) then
                    (bif ((IntKind.i64.wrap (x.2.1.2.2.2.2.2 - (1 : Int))) == (0 : Int)) then
                      (x.2.1.1, x.2.1.2.1, x.2.1.2.2.1, x.2.1.2.2.2.2.1, (0 : Int), (IntKind.i64.wrap (x.2.1.2.2.2.2.2 - (1 : Int))))
                    else
                      (x.2.1.1, x.2.1.2.1, x.2.1.2.2.1, x.2.1.2.2.2.1, x.2.1.2.2.2.2.1, (IntKind.i64.wrap (x.2.1.2.2.2.2.2 - (1 : Int)))))
                  else
                    bif ((IntKind.i64.wrap ((max (1 : Int) (min x.2.2.2 (10000 : Int))) - (1 : Int))) == (0 : Int)) then
                      (x.2.1.1, x.2.1.2.1, x.2.1.2.2.1, x.2.1.2.2.2.2.1, (0 : Int), (IntKind.i64.wrap ((max (1 : Int) (min x.2.2.2 (10000 : Int))) - (1 : Int))))
                    else
                      (x.2.1.1, x.2.1.2.1, x.2.1.2.2.1, (0 : Int), x.2.1.2.2.2.2.1, (IntKind.i64.wrap ((max (1 : Int) (min x.2.2.2 (10000 : Int))) - (1 : Int)))))
        else
          bif (((x.2.1.2.2.2.1 == (2 : Int)) && ((IntKind.i64.wrap (x.2.1.1 + (1 : Int))) != x.2.1.1)) && (Sp.F31 ((IntKind.i64.wrap (x.2.1.1 + (1 : Int))), (0 : Int), (IntKind.i64.wrap (x.1 - (1 : Int)))))) then
            (Sp.F38 (x.2.1.1, (IntKind.i64.wrap (x.2.1.1 + (1 : Int))), (IntKind.i64.wrap ((max (1 : Int) (min x.2.2.2 (10000 : Int))) - (1 : Int))), x.2.1.2.2.2))
          else
            bif (x.2.2.1 == (3 : Int)) then
              (bif ((x.2.2.1 == (4 : Int)) || (x.2.2.1 == (5 : Int))) then
                (bif (((2 : Int) == (0 : Int)) || ((2 : Int) == x.2.1.2.2.2.1)) then
                  x.2.1
                else
                  bif ((x.2.1.2.2.2.1 == (0 : Int)) && ((2 : Int) == x.2.1.2.2.2.2.1)) then
                    (bif ((IntKind.i64.wrap (x.2.1.2.2.2.2.2 - (1 : Int))) == (0 : Int)) then
                      (x.2.1.1, x.2.1.2.1, x.2.1.2.2.1, (2 : Int), (0 : Int), (IntKind.i64.wrap (x.2.1.2.2.2.2.2 - (1 : Int))))
                    else
                      (x.2.1.1, x.2.1.2.1, x.2.1.2.2.1, x.2.1.2.2.2.1, x.2.1.2.2.2.2.1, (IntKind.i64.wrap (x.2.1.2.2.2.2.2 - (1 : Int)))))
                  else
                    bif ((IntKind.i64.wrap ((max (1 : Int) (min x.2.2.2 (10000 : Int))) - (1 : Int))) == (0 : Int)) then
                      (x.2.1.1, x.2.1.2.1, x.2.1.2.2.1, (2 : Int), (0 : Int), (IntKind.i64.wrap ((max (1 : Int) (min x.2.2.2 (10000 : Int))) - (1 : Int))))
                    else
                      (x.2.1.1, x.2.1.2.1, x.2.1.2.2.1, (0 : Int), (2 : Int), (IntKind.i64.wrap ((max (1 : Int) (min x.2.2.2 (10000 : Int))) - (1 : Int)))))
              else
                bif (((1 : Int) == (0 : Int)) || ((1 : Int) == x.2.1.2.2.2.1)) then
                  x.2.1
                else
                  bif ((x.2.1.2.2.2.1 == (0 : Int)) && ((1 : Int) == x.2.1.2.2.2.2.1)) then
                    (bif ((IntKind.i64.wrap (x.2.1.2.2.2.2.2 - (1 : Int))) == (0 : Int)) then
                      (x.2.1.1, x.2.1.2.1, x.2.1.2.2.1, (1 : Int), (0 : Int), (IntKind.i64.wrap (x.2.1.2.2.2.2.2 - (1 : Int))))
                    else
                      (x.2.1.1, x.2.1.2.1, x.2.1.2.2.1, x.2.1.2.2.2.1, x.2.1.2.2.2.2.1, (IntKind.i64.wrap (x.2.1.2.2.2.2.2 - (1 : Int)))))
                  else
                    bif ((IntKind.i64.wrap ((max (1 : Int) (min x.2.2.2 (10000 : Int))) - (1 : Int))) == (0 : Int)) then
                      (x.2.1.1, x.2.1.2.1, x.2.1.2.2.1, (1 : Int), (0 : Int), (IntKind.i64.wrap ((max (1 : Int) (min x.2.2.2 (10000 : Int))) - (1 : Int))))
                    else
                      (x.2.1.1, x.2.1.2.1, x.2.1.2.2.1, (0 : Int), (1 : Int), (IntKind.i64.wrap ((max (1 : Int) (min x.2.2.2 (10000 : Int))) - (1 : Int)))))
            else
              bif ((x.2.2.1 == (4 : Int)) || (x.2.2.1 == (5 : Int))) then
                (bif (((2 : Int) == (0 : Int)) || ((2 : Int) == x.2.1.2.2.2.1)) then
                  x.2.1
                else
                  bif ((x.2.1.2.2.2.1 == (0 : Int)) && ((2 : Int) == x.2.1.2.2.2.2.1)) then
                    (bif ((IntKind.i64.wrap (x.2.1.2.2.2.2.2 - (1 : Int))) == (0 : Int)) then
                      (x.2.1.1, x.2.1.2.1, x.2.1.2.2.1, (2 : Int), (0 : Int), (IntKind.i64.wrap (x.2.1.2.2.2.2.2 - (1 : Int))))
                    else
                      (x.2.1.1, x.2.1.2.1, x.2.1.2.2.1, x.2.1.2.2.2.1, x.2.1.2.2.2.2.1, (IntKind.i64.wrap (x.2.1.2.2.2.2.2 - (1 : Int)))))
                  else
                    bif ((IntKind.i64.wrap ((max (1 : Int) (min x.2.2.2 (10000 : Int))) - (1 : Int))) == (0 : Int)) then
                      (x.2.1.1, x.2.1.2.1, x.2.1.2.2.1, (2 : Int), (0 : Int), (IntKind.i64.wrap ((max (1 : Int) (min x.2.2.2 (10000 : Int))) - (1 : Int))))
                    else
                      (x.2.1.1, x.2.1.2.1, x.2.1.2.2.1, (0 : Int), (2 : Int), (IntKind.i64.wrap ((max (1 : Int) (min x.2.2.2 (10000 : Int))) - (1 : Int)))))
              else
                bif ((x.2.1.2.2.2.2.1 == (0 : Int)) || (x.2.1.2.2.2.2.1 == x.2.1.2.2.2.1)) then
                  x.2.1
                else
                  bif ((x.2.1.2.2.2.1 == (0 : Int)) && (x.2.1.2.2.2.2.1 == x.2.1.2.2.2.2.1)) then
                    (bif ((IntKind.i64.wrap (x.2.1.2.2.2.2.2 - (1 : Int))) == (0 : Int)) then
                      (x.2.1.1, x.2.1.2.1, x.2.1.2.2.1, x.2.1.2.2.2.2.1, (0 : Int), (IntKind.i64.wrap (x.2.1.2.2.2.2.2 - (1 : Int))))
                    else
                      (x.2.1.1, x.2.1.2.1, x.2.1.2.2.1, x.2.1.2.2.2.1, x.2.1.2.2.2.2.1, (IntKind.i64.wrap (x.2.1.2.2.2.2.2 - (1 : Int)))))
                  else
                    bif ((IntKind.i64.wrap ((max (1 : Int) (min x.2.2.2 (10000 : Int))) - (1 : Int))) == (0 : Int)) then
                      (x.2.1.1, x.2.1.2.1, x.2.1.2.2.1, x.2.1.2.2.2.2.1, (0 : Int), (IntKind.i64.wrap ((max (1 : Int) (min x.2.2.2 (10000 : Int))) - (1 : Int))))
                    else
                      (x.2.1.1, x.2.1.2.1, x.2.1.2.2.1, (0 : Int), x.2.1.2.2.2.2.1, (IntKind.i64.wrap ((max (1 : Int) (min x.2.2.2 (10000 : Int))) - (1 : Int)))))
      else
        bif (x.2.2.1 == (2 : Int)) then
          (bif (((x.2.1.2.2.2.1 == (2 : Int)) && ((IntKind.i64.wrap (x.2.1.1 - (1 : Int))) != x.2.1.1)) && (Sp.F31 ((IntKind.i64.wrap (x.2.1.1 - (1 : Int))), (0 : Int), (IntKind.i64.wrap (x.1 - (1 : Int)))))) then
            (Sp.F38 (x.2.1.1, (IntKind.i64.wrap (x.2.1.1 - (1 : Int))), (IntKind.i64.wrap ((max (1 : Int) (min x.2.2.2 (10000 : Int))) - (1 : Int))), x.2.1.2.2.2))
          else
            bif (x.2.2.1 == (3 : Int)) then
              (bif ((x.2.2.1 == (4 : Int)) || (x.2.2.1 == (5 : Int))) then
                (bif (((2 : Int) == (0 : Int)) || ((2 : Int) == x.2.1.2.2.2.1)) then
                  x.2.1
                else
                  bif ((x.2.1.2.2.2.1 == (0 : Int)) && ((2 : Int) == x.2.1.2.2.2.2.1)) then
                    (bif ((IntKind.i64.wrap (x.2.1.2.2.2.2.2 - (1 : Int))) == (0 : Int)) then
                      (x.2.1.1, x.2.1.2.1, x.2.1.2.2.1, (2 : Int), (0 : Int), (IntKind.i64.wrap (x.2.1.2.2.2.2.2 - (1 : Int))))
                    else
                      (x.2.1.1, x.2.1.2.1, x.2.1.2.2.1, x.2.1.2.2.2.1, x.2.1.2.2.2.2.1, (IntKind.i64.wrap (x.2.1.2.2.2.2.2 - (1 : Int)))))
                  else
                    bif ((IntKind.i64.wrap ((max (1 : Int) (min x.2.2.2 (10000 : Int))) - (1 : Int))) == (0 : Int)) then
                      (x.2.1.1, x.2.1.2.1, x.2.1.2.2.1, (2 : Int), (0 : Int), (IntKind.i64.wrap ((max (1 : Int) (min x.2.2.2 (10000 : Int))) - (1 : Int))))
                    else
                      (x.2.1.1, x.2.1.2.1, x.2.1.2.2.1, (0 : Int), (2 : Int), (IntKind.i64.wrap ((max (1 : Int) (min x.2.2.2 (10000 : Int))) - (1 : Int)))))
              else
                bif (((1 : Int) == (0 : Int)) || ((1 : Int) == x.2.1.2.2.2.1)) then
                  x.2.1
                else
                  bif ((x.2.1.2.2.2.1 == (0 : Int)) && ((1 : Int) == x.2.1.2.2.2.2.1)) then
                    (bif ((IntKind.i64.wrap (x.2.1.2.2.2.2.2 - (1 : Int))) == (0 : Int)) then
                      (x.2.1.1, x.2.1.2.1, x.2.1.2.2.1, (1 : Int), (0 : Int), (IntKind.i64.wrap (x.2.1.2.2.2.2.2 - (1 : Int))))
                    else
                      (x.2.1.1, x.2.1.2.1, x.2.1.2.2.1, x.2.1.2.2.2.1, x.2.1.2.2.2.2.1, (IntKind.i64.wrap (x.2.1.2.2.2.2.2 - (1 : Int)))))
                  else
                    bif ((IntKind.i64.wrap ((max (1 : Int) (min x.2.2.2 (10000 : Int))) - (1 : Int))) == (0 : Int)) then
                      (x.2.1.1, x.2.1.2.1, x.2.1.2.2.1, (1 : Int), (0 : Int), (IntKind.i64.wrap ((max (1 : Int) (min x.2.2.2 (10000 : Int))) - (1 : Int))))
                    else
                      (x.2.1.1, x.2.1.2.1, x.2.1.2.2.1, (0 : Int), (1 : Int), (IntKind.i64.wrap ((max (1 : Int) (min x.2.2.2 (10000 : Int))) - (1 : Int)))))
            else
              bif ((x.2.2.1 == (4 : Int)) || (x.2.2.1 == (5 : Int))) then
                (bif (((2 : Int) == (0 : Int)) || ((2 : Int) == x.2.1.2.2.2.1)) then
                  x.2.1
                else
                  bif ((x.2.1.2.2.2.1 == (0 : Int)) && ((2 : Int) == x.2.1.2.2.2.2.1)) then
                    (bif ((IntKind.i64.wrap (x.2.1.2.2.2.2.2 - (1 : Int))) == (0 : Int)) then
                      (x.2.1.1, x.2.1.2.1, x.2.1.2.2.1, (2 : Int), (0 : Int), (IntKind.i64.wrap (x.2.1.2.2.2.2.2 - (1 : Int))))
                    else
                      (x.2.1.1, x.2.1.2.1, x.2.1.2.2.1, x.2.1.2.2.2.1, x.2.1.2.2.2.2.1, (IntKind.i64.wrap (x.2.1.2.2.2.2.2 - (1 : Int)))))
                  else
                    bif ((IntKind.i64.wrap ((max (1 : Int) (min x.2.2.2 (10000 : Int))) - (1 : Int))) == (0 : Int)) then
                      (x.2.1.1, x.2.1.2.1, x.2.1.2.2.1, (2 : Int), (0 : Int), (IntKind.i64.wrap ((max (1 : Int) (min x.2.2.2 (10000 : Int))) - (1 : Int))))
                    else
                      (x.2.1.1, x.2.1.2.1, x.2.1.2.2.1, (0 : Int), (2 : Int), (IntKind.i64.wrap ((max (1 : Int) (min x.2.2.2 (10000 : Int))) - (1 : Int)))))
              else
                bif ((x.2.1.2.2.2.2.1 == (0 : Int)) || (x.2.1.2.2.2.2.1 == x.2.1.2.2.2.1)) then
                  x.2.1
                else
                  bif ((x.2.1.2.2.2.1 == (0 : Int)) && (x.2.1.2.2.2.2.1 == x.2.1.2.2.2.2.1)) then
                    (bif ((IntKind.i64.wrap (x.2.1.2.2.2.2.2 - (1 : Int))) == (0 : Int)) then
                      (x.2.1.1, x.2.1.2.1, x.2.1.2.2.1, x.2.1.2.2.2.2.1, (0 : Int), (IntKind.i64.wrap (x.2.1.2.2.2.2.2 - (1 : Int))))
                    else
                      (x.2.1.1, x.2.1.2.1, x.2.1.2.2.1, x.2.1.2.2.2.1, x.2.1.2.2.2.2.1, (IntKind.i64.wrap (x.2.1.2.2.2.2.2 - (1 : Int)))))
                  else
                    bif ((IntKind.i64.wrap ((max (1 : Int) (min x.2.2.2 (10000 : Int))) - (1 : Int))) == (0 : Int)) then
                      (x.2.1.1, x.2.1.2.1, x.2.1.2.2.1, x.2.1.2.2.2.2.1, (0 : Int), (IntKind.i64.wrap ((max (1 : Int) (min x.2.2.2 (10000 : Int))) - (1 : Int))))
                    else
                      (x.2.1.1, x.2.1.2.1, x.2.1.2.2.1, (0 : Int), x.2.1.2.2.2.2.1, (IntKind.i64.wrap ((max (1 : Int) (min x.2.2.2 (10000 : Int))) - (1 : Int)))))
        else
          bif (((x.2.1.2.2.2.1 == (2 : Int)) && (x.2.1.1 != x.2.1.1)) && (Sp.F31 (x.2.1.1, (0 : Int), (IntKind.i64.wrap (x.1 - (1 : Int)))))) then
            (Sp.F38 (x.2.1.1, x.2.1.1, (IntKind.i64.wrap ((max (1 : Int) (min x.2.2.2 (10000 : Int))) - (1 : Int))), x.2.1.2.2.2))
          else
            bif (x.2.2.1 == (3 : Int)) then
              (bif ((x.2.2.1 == (4 : Int)) || (x.2.2.1 == (5 : Int))) then
                (bif (((2 : Int) == (0 : Int)) || ((2 : Int) == x.2.1.2.2.2.1)) then
                  x.2.1
                else
                  bif ((x.2.1.2.2.2.1 == (0 : Int)) && ((2 : Int) == x.2.1.2.2.2.2.1)) then
                    (bif ((IntKind.i64.wrap (x.2.1.2.2.2.2.2 - (1 : Int))) == (0 : Int)) then
                      (x.2.1.1, x.2.1.2.1, x.2.1.2.2.1, (2 : Int), (0 : Int), (IntKind.i64.wrap (x.2.1.2.2.2.2.2 - (1 : Int))))
                    else
                      (x.2.1.1, x.2.1.2.1, x.2.1.2.2.1, x.2.1.2.2.2.1, x.2.1.2.2.2.2.1, (IntKind.i64.wrap (x.2.1.2.2.2.2.2 - (1 : Int)))))
                  else
                    bif ((IntKind.i64.wrap ((max (1 : Int) (min x.2.2.2 (10000 : Int))) - (1 : Int))) == (0 : Int)) then
                      (x.2.1.1, x.2.1.2.1, x.2.1.2.2.1, (2 : Int), (0 : Int), (IntKind.i64.wrap ((max (1 : Int) (min x.2.2.2 (10000 : Int))) - (1 : Int))))
                    else
                      (x.2.1.1, x.2.1.2.1, x.2.1.2.2.1, (0 : Int), (2 : Int), (IntKind.i64.wrap ((max (1 : Int) (min x.2.2.2 (10000 : Int))) - (1 : Int)))))
              else
                bif (((1 : Int) == (0 : Int)) || ((1 : Int) == x.2.1.2.2.2.1)) then
                  x.2.1
                else
                  bif ((x.2.1.2.2.2.1 == (0 : Int)) && ((1 : Int) == x.2.1.2.2.2.2.1)) then
                    (bif ((IntKind.i64.wrap (x.2.1.2.2.2.2.2 - (1 : Int))) == (0 : Int)) then
                      (x.2.1.1, x.2.1.2.1, x.2.1.2.2.1, (1 : Int), (0 : Int), (IntKind.i64.wrap (x.2.1.2.2.2.2.2 - (1 : Int))))
                    else
                      (x.2.1.1, x.2.1.2.1, x.2.1.2.2.1, x.2.1.2.2.2.1, x.2.1.2.2.2.2.1, (IntKind.i64.wrap (x.2.1.2.2.2.2.2 - (1 : Int)))))
                  else
                    bif ((IntKind.i64.wrap ((max (1 : Int) (min x.2.2.2 (10000 : Int))) - (1 : Int))) == (0 : Int)) then
                      (x.2.1.1, x.2.1.2.1, x.2.1.2.2.1, (1 : Int), (0 : Int), (IntKind.i64.wrap ((max (1 : Int) (min x.2.2.2 (10000 : Int))) - (1 : Int))))
                    else
                      (x.2.1.1, x.2.1.2.1, x.2.1.2.2.1, (0 : Int), (1 : Int), (IntKind.i64.wrap ((max (1 : Int) (min x.2.2.2 (10000 : Int))) - (1 : Int)))))
            else
              bif ((x.2.2.1 == (4 : Int)) || (x.2.2.1 == (5 : Int))) then
                (bif (((2 : Int) == (0 : Int)) || ((2 : Int) == x.2.1.2.2.2.1)) then
                  x.2.1
                else
                  bif ((x.2.1.2.2.2.1 == (0 : Int)) && ((2 : Int) == x.2.1.2.2.2.2.1)) then
                    (bif ((IntKind.i64.wrap (x.2.1.2.2.2.2.2 - (1 : Int))) == (0 : Int)) then
                      (x.2.1.1, x.2.1.2.1, x.2.1.2.2.1, (2 : Int), (0 : Int), (IntKind.i64.wrap (x.2.1.2.2.2.2.2 - (1 : Int))))
                    else
                      (x.2.1.1, x.2.1.2.1, x.2.1.2.2.1, x.2.1.2.2.2.1, x.2.1.2.2.2.2.1, (IntKind.i64.wrap (x.2.1.2.2.2.2.2 - (1 : Int)))))
                  else
                    bif ((IntKind.i64.wrap ((max (1 : Int) (min x.2.2.2 (10000 : Int))) - (1 : Int))) == (0 : Int)) then
                      (x.2.1.1, x.2.1.2.1, x.2.1.2.2.1, (2 : Int), (0 : Int), (IntKind.i64.wrap ((max (1 : Int) (min x.2.2.2 (10000 : Int))) - (1 : Int))))
                    else
                      (x.2.1.1, x.2.1.2.1, x.2.1.2.2.1, (0 : Int), (2 : Int), (IntKind.i64.wrap ((max (1 : Int) (min x.2.2.2 (10000 : Int))) - (1 : Int)))))
              else
                bif ((x.2.1.2.2.2.2.1 == (0 : Int)) || (x.2.1.2.2.2.2.1 == x.2.1.2.2.2.1)) then
                  x.2.1
                else
                  bif ((x.2.1.2.2.2.1 == (0 : Int)) && (x.2.1.2.2.2.2.1 == x.2.1.2.2.2.2.1)) then
                    (bif ((IntKind.i64.wrap (x.2.1.2.2.2.2.2 - (1 : Int))) == (0 : Int)) then
                      (x.2.1.1, x.2.1.2.1, x.2.1.2.2.1, x.2.1.2.2.2.2.1, (0 : Int), (IntKind.i64.wrap (x.2.1.2.2.2.2.2 - (1 : Int))))
                    else
                      (x.2.1.1, x.2.1.2.1, x.2.1.2.2.1, x.2.1.2.2.2.1, x.2.1.2.2.2.2.1, (IntKind.i64.wrap (x.2.1.2.2.2.2.2 - (1 : Int)))))
                  else
                    bif ((IntKind.i64.wrap ((max (1 : Int) (min x.2.2.2 (10000 : Int))) - (1 : Int))) == (0 : Int)) then
                      (x.2.1.1, x.2.1.2.1, x.2.1.2.2.1, x.2.1.2.2.2.2.1, (0 : Int), (IntKind.i64.wrap ((max (1 : Int) (min x.2.2.2 (10000 : Int))) - (1 : Int))))
                    else
                      (x.2.1.1, x.2.1.2.1, x.2.1.2.2.1, (0 : Int), x.2.1.2.2.2.2.1, (IntKind.i64.wrap ((max (1 : Int) (min x.2.2.2 (10000 : Int))) - (1 : Int))))
def F39 (x : BldT × (Int × Int) × (Int × Int × Int × Bool × Int) × (Int × Int × Int) × Int × Int × Int × Bool) : Bool :=
  bif (((Sp.F60 x.1) != (0 : Int)) || (x.2.2.2.2.2.2.2 && (!(((x.2.1.1 == (0 : Int)) && (x.2.1.2 == (0 : Int))) && (((x.2.2.1.1 == (0 : Int)) && ((x.2.2.1.2.1 == (0 : Int)) && ((x.2.2.1.2.2.1 == (0 : Int)) && ((x.2.2.1.2.2.2.1 == false) && (x.2.2.1.2.2.2.2 == (0 : Int)))))) && (((x.2.2.2.1.1 == (0 : Int)) && ((x.2.2.2.1.2.1 == (0 : Int)) && (x.2.2.2.1.2.2 == (0 : Int)))) && ((x.2.2.2.2.1 == (0 : Int)) && ((x.2.2.2.2.2.1 == (0 : Int)) && ((x.2.2.2.2.2.2.1 == (0 : Int)) && (x.2.2.2.2.2.2.2 == true)))))))))) then
    false
  else
    bif ((((!(Sp.F61 x.2.1)) || (!(Sp.F62 x.2.2.1))) || (!(Sp.F63 (x.1.1, x.2.2.2.1)))) || ((!((x.2.2.1.1 == (0 : Int)) && ((x.2.2.1.2.1 == (0 : Int)) && ((x.2.2.1.2.2.1 == (0 : Int)) && ((x.2.2.1.2.2.2.1 == false) && (x.2.2.1.2.2.2.2 == (0 : Int))))))) && (!((x.2.2.2.1.1 == (0 : Int)) && ((x.2.2.2.1.2.1 == (0 : Int)) && (x.2.2.2.1.2.2 == (0 : Int))))))) then
      false
    else
      ((((((Int.fdiv x.2.2.2.2.1 (2 ^ (min (x.1.1).toNat IntKind.u32.bits))) == (0 : Int)) && (decide (x.2.2.2.2.2.1 ≥ (0 : Int)))) && (decide (x.2.2.2.2.2.1 ≤ (2 : Int)))) && (decide (x.2.2.2.2.2.2.1 ≥ (0 : Int)))) && (decide (x.2.2.2.2.2.2.1 ≤ (1000000 : Int))))
def F84 (x : Int × (Int × Int × Int) × FbT × Int) : (Int × Int × Int) × Int × Bool :=
  bif (((!(Sp.F63 (x.1, x.2.1))) || (decide (x.2.2.1.1 < (0 : Int)))) || (decide (x.2.2.1.1 ≥ x.1))) then
    (((0 : Int), (0 : Int), (0 : Int)), (0 : Int), false)
  else
    bif (((Sp.F83 (x.1, x.2.1.2.2, x.2.1.1)).2 && x.2.2.1.2.1) && (x.2.2.1.1 == (Sp.F83 (x.1, x.2.1.2.2, x.2.1.1)).1)) then
      (((0 : Int), (0 : Int), (0 : Int)), (0 : Int), true)
    else
      bif ((Sp.F83 (x.1, x.2.1.2.2, x.2.1.1)).2 || (!x.2.2.1.2.1)) then
        ((x.2.1.1, (min (IntKind.i64.wrap (x.2.1.2.1 + (1 : Int))) (1000000 : Int)), x.2.1.2.2), x.2.1.1, false)
      else
        bif (Sp.F83 (x.1, x.2.2.1.1, x.2.2.2)).2 then
          ((x.2.2.2, (0 : Int), x.2.2.1.1), x.2.2.2, false)
        else
          (((0 : Int), (0 : Int), (0 : Int)), (0 : Int), false)
def K65_1 (x : CarT × (Int × Int × Int × Bool × Int) × Int × Bool × Bool) :=
  (Sp.F86 (((Sp.F85 ((0 : Int), (0 : Int), (0 : Int), false, (0 : Int))).1, (Sp.F85 ((0 : Int), (0 : Int), (0 : Int), false, (0 : Int))).2.1, (max ((Sp.F85 ((0 : Int), (0 : Int), (0 : Int), false, (0 : Int))).2.2.1) (1 : Int)), (Sp.F85 ((0 : Int), (0 : Int), (0 : Int), false, (0 : Int))).2.2.2), (2 : Int)))
def K65_2 (x : CarT × (Int × Int × Int × Bool × Int) × Int × Bool × Bool) :=
  (Sp.F86 (((Sp.F85 ((0 : Int), (0 : Int), (0 : Int), false, (0 : Int))).1, (Sp.F85 ((0 : Int), (0 : Int), (0 : Int), false, (0 : Int))).2.1, (Sp.F85 ((0 : Int), (0 : Int), (0 : Int), false, (0 : Int))).2.2.1, (Sp.F85 ((0 : Int), (0 : Int), (0 : Int), false, (0 : Int))).2.2.2.1, (Sp.F89 ((Sp.F85 ((0 : Int), (0 : Int), (0 : Int), false, (0 : Int))).2.2.2.2))), (1 : Int)))
def F65 (x : CarT × (Int × Int × Int × Bool × Int) × Int × Bool × Bool) : (Int × Int × Int × Bool × Int) × Int :=
  bif (!(Sp.F62 x.2.1)) then
    (bif ((0 : Int) == (0 : Int)) then
      (bif x.2.2.2.2 then
        (((1 : Int), (0 : Int), (0 : Int), false, (0 : Int)), (3 : Int))
      else
        (((0 : Int), (0 : Int), (0 : Int), false, (0 : Int)), (0 : Int)))
    else
      bif (((Sp.F85 ((0 : Int), (0 : Int), (0 : Int), false, (0 : Int))).1 == (1 : Int)) && (x.2.2.1 == (1 : Int))) then
        ((Sp.K65_1 x), (0 : Int))
      else
        bif (((Sp.F85 ((0 : Int), (0 : Int), (0 : Int), false, (0 : Int))).1 == (3 : Int)) && (x.2.2.1 == (2 : Int))) then
          (((0 : Int), (0 : Int), (0 : Int), false, (0 : Int)), (0 : Int))
        else
          bif ((((Sp.F85 ((0 : Int), (0 : Int), (0 : Int), false, (0 : Int))).1 == (3 : Int)) && (decide ((Sp.F85 ((0 : Int), (0 : Int), (0 : Int), false, (0 : Int))).2.2.1 > x.1.2.2.2.2.2.2.2.1))) && (Sp.F85 ((0 : Int), (0 : Int), (0 : Int), false, (0 : Int))).2.2.2.1) then
            (Sp.F87 ((Sp.F85 ((0 : Int), (0 : Int), (0 : Int), false, (0 : Int))), (5 : Int)))
          else
            bif (decide ((Sp.F85 ((0 : Int), (0 : Int), (0 : Int), false, (0 : Int))).2.2.1 > x.1.2.2.2.2.2.2.2.1)) then
              (Sp.F88 (Sp.F85 ((0 : Int), (0 : Int), (0 : Int), false, (0 : Int))))
            else
              bif ((Sp.F85 ((0 : Int), (0 : Int), (0 : Int), false, (0 : Int))).1 == (1 : Int)) then
                (Sp.F87 ((Sp.F85 ((0 : Int), (0 : Int), (0 : Int), false, (0 : Int))), (3 : Int)))
              else
                bif ((Sp.F85 ((0 : Int), (0 : Int), (0 : Int), false, (0 : Int))).1 == (2 : Int)) then
                  (bif ((decide ((IntKind.i64.wrap ((Sp.F85 ((0 : Int), (0 : Int), (0 : Int), false, (0 : Int))).2.1 + (1 : Int))) ≥ x.1.2.2.2.2.2.2.1)) && (!x.2.2.2.1)) then
                    ((Sp.F86 ((Sp.F85 ((0 : Int), (0 : Int), (0 : Int), false, (0 : Int))), (3 : Int))), (4 : Int))
                  else
                    (Sp.F87 ((Sp.F85 ((0 : Int), (0 : Int), (0 : Int), false, (0 : Int))), (0 : Int))))
                else
                  bif x.2.2.2.1 then
                    ((Sp.K65_2 x), (3 : Int))
                  else
                    (Sp.F87 ((Sp.F85 ((0 : Int), (0 : Int), (0 : Int), false, (0 : Int))), (4 : Int))))
  else
    bif (x.2.1.1 == (0 : Int)) then
      (bif x.2.2.2.2 then
        (((1 : Int), (0 : Int), (0 : Int), false, (0 : Int)), (3 : Int))
      else
        (x.2.1, (0 : Int)))
    else
      bif (((Sp.F85 x.2.1).1 == (1 : Int)) && (x.2.2.1 == (1 : Int))) then
        ((Sp.F86 (((Sp.F85 x.2.1).1, (Sp.F85 x.2.1).2.1, (max ((Sp.F85 x.2.1).2.2.1) (1 : Int)), (Sp.F85 x.2.1).2.2.2), (2 : Int))), (0 : Int))
      else
        bif (((Sp.F85 x.2.1).1 == (3 : Int)) && (x.2.2.1 == (2 : Int))) then
          (((0 : Int), (0 : Int), (0 : Int), false, (0 : Int)), (0 : Int))
        else
          bif ((((Sp.F85 x.2.1).1 == (3 : Int)) && (decide ((Sp.F85 x.2.1).2.2.1 > x.1.2.2.2.2.2.2.2.1))) && (Sp.F85 x.2.1).2.2.2.1) then
            (Sp.F87 ((Sp.F85 x.2.1), (5 : Int)))
          else
            bif (decide ((Sp.F85 x.2.1).2.2.1 > x.1.2.2.2.2.2.2.2.1)) then
              (Sp.F88 (Sp.F85 x.2.1))
            else
              bif ((Sp.F85 x.2.1).1 == (1 : Int)) then
                (Sp.F87 ((Sp.F85 x.2.1), (3 : Int)))
              else
                bif ((Sp.F85 x.2.1).1 == (2 : Int)) then
                  (bif ((decide ((IntKind.i64.wrap ((Sp.F85 x.2.1).2.1 + (1 : Int))) ≥ x.1.2.2.2.2.2.2.1)) && (!x.2.2.2.1)) then
                    ((Sp.F86 ((Sp.F85 x.2.1), (3 : Int))), (4 : Int))
                  else
                    (Sp.F87 ((Sp.F85 x.2.1), (0 : Int))))
                else
                  bif x.2.2.2.1 then
                    ((Sp.F86 (((Sp.F85 x.2.1).1, (Sp.F85 x.2.1).2.1, (Sp.F85 x.2.1).2.2.1, (Sp.F85 x.2.1).2.2.2.1, (Sp.F89 ((Sp.F85 x.2.1).2.2.2.2))), (1 : Int))), (3 : Int))
                  else
                    (Sp.F87 ((Sp.F85 x.2.1), (4 : Int)))
def F15 (x : Int × (Int × Int × Int × Int × Int × Int) × Int × Int) : Int × Int × Int × Int × Int × Int :=
  bif (!(Sp.F12 (x.1, x.2.1))) then
    (Sp.F16 (0 : Int))
  else
    bif (x.2.1.2.2.1 != (0 : Int)) then
      (Sp.F28 (x.2.1.1, x.2.1.2.1, (IntKind.i64.wrap (x.2.1.2.2.1 - (1 : Int))), x.2.1.2.2.2))
    else
      bif ((((Sp.F27 (x.2.1, x.2.2.1)) != x.2.1.1) && (Sp.F21 ((Sp.F27 (x.2.1, x.2.2.1)), (0 : Int), (IntKind.i64.wrap (x.1 - (1 : Int)))))) && (x.2.1.2.2.2.1 == (2 : Int))) then
        (Sp.F28 (x.2.1.1, (Sp.F27 (x.2.1, x.2.2.1)), (IntKind.i64.wrap ((min (max x.2.2.2 (1 : Int)) (10000 : Int)) - (1 : Int))), x.2.1.2.2.2))
      else
        (Sp.F29 (x.2.1, (Sp.F30 (x.2.1, x.2.2.1)), (min (max x.2.2.2 (1 : Int)) (10000 : Int))))
end Go.Proofs.YtngbcgnihbjfnaaGreatDoor.Sp
namespace Go.Proofs.YtngbcgnihbjfnaaGreatDoor.Sy
open Go Go.RowKit Sp
def ct46 : Ct := { p := (Ty.pair ty27 ty37), psh := [some 8, some 14], r := ty4, rsh := (Rsh.one (none)), pre := none, fresh := none, F := Sp.F46 }
theorem ok46 : CtOk Tryz.prog gdS 46 ct46 :=
  fn_okU (ctxOkP pgokPmV0 fvok_none gokGmV1 []) rfl Tryz.func46 (p := (Ty.pair ty27 ty37)) (psh := [some 8, some 14]) (r := ty4) (rsh := (Rsh.one (none))) (pre := none) (fresh := none) (F := Sp.F46) (L := noL) (c := bodyOf Tryz.f46) (dflt := Ty.dflt ty4) rfl (no_loops)
    (fun x fx _ => slim_of (S := ((((Sp.F69 x.1) != (0 : Int)) = false → (x.2.2.2.2.2.2.2 = false → (((((!(Sp.F70 x.2.1)) || (!(Sp.F56 x.2.2.1))) || (!(Sp.F47 (x.1.1, x.2.2.2.1)))) || ((!((x.2.2.1.1 == (0 : Int)) && ((x.2.2.1.2.1 == (0 : Int)) && ((x.2.2.1.2.2.1 == (0 : Int)) && ((x.2.2.1.2.2.2.1 == false) && (x.2.2.1.2.2.2.2 == (0 : Int))))))) && (!((x.2.2.2.1.1 == (0 : Int)) && ((x.2.2.2.1.2.1 == (0 : Int)) && (x.2.2.2.1.2.2 == (0 : Int))))))) = false → (0 ≤ (IntKind.u64.wrap x.1.1))))))) (by kernel_rfl) (by
  try dsimp only [Ty.den] at *
  simp only [Fit, maxLen] at fx
  simp only [true_and, IntKind.wrap_i64, IntKind.wrap_u8, IntKind.wrap_u32, IntKind.wrap_u64, Sp.tmod_lit, Sp.tdiv_lit, bne_eq_false_iff_eq, Int.natCast_inj, setE, copyL, sliceL, zrow, List.length_append, List.length_cons, List.length_nil, List.length_set, List.length_replicate, List.length_take, List.length_drop, decide_eq_true_eq, decide_eq_false_iff_not, Bool.or_eq_true, Bool.and_eq_true, Bool.or_eq_false_iff, Bool.and_eq_false_iff, Bool.not_eq_true', Bool.not_eq_false', Bool.not_eq_true, Bool.not_eq_false, beq_iff_eq, beq_eq_false_iff_ne, bne_iff_ne, ne_eq, implies_true, and_true, true_and] at *
  all_goals ((repeat' (first | exact trivial | apply And.intro | intro _)) <;> first | trivial | omega | exact Sp.tmod_nn (by omega) | exact Sp.tmod_lt (by omega) (by omega)))) (fun x => by kernel_rfl)
def ct34 : Ct := { p := (Ty.pair ty3 (Ty.pair ty34 (Ty.pair ty59 ty3))), psh := [none, some 3, some 4, none], r := (Ty.pair ty34 (Ty.pair ty3 ty4)), rsh := (Rsh.tup [some 3, none, none]), pre := none, fresh := none, F := Sp.F34 }
theorem ok34 : CtOk Tryz.prog gdS 34 ct34 :=
  fn_okU (ctxOkP pgokPmV0 fvok_none gokGmV1 []) rfl Tryz.func34 (p := (Ty.pair ty3 (Ty.pair ty34 (Ty.pair ty59 ty3)))) (psh := [none, some 3, some 4, none]) (r := (Ty.pair ty34 (Ty.pair ty3 ty4))) (rsh := (Rsh.tup [some 3, none, none])) (pre := none) (fresh := none) (F := Sp.F34) (L := noL) (c := bodyOf Tryz.f34) (dflt := Ty.dflt (Ty.pair ty34 (Ty.pair ty3 ty4))) rfl (no_loops)
    (fun x fx _ => triv_of (by kernel_rfl)) (fun x => by kernel_rfl)
def ct37 : Ct := { p := (Ty.pair ty53 (Ty.pair ty32 (Ty.pair ty3 (Ty.pair ty4 ty4)))), psh := [some 9, some 5, none, none, none], r := (Ty.pair ty32 ty3), rsh := (Rsh.tup [some 5, none]), pre := none, fresh := none, F := Sp.F37 }
theorem ok37 : CtOk Tryz.prog gdS 37 ct37 :=
  fn_okU (ctxOkP pgokPmV0 fvok_none gokGmV1 []) rfl Tryz.func37 (p := (Ty.pair ty53 (Ty.pair ty32 (Ty.pair ty3 (Ty.pair ty4 ty4))))) (psh := [some 9, some 5, none, none, none]) (r := (Ty.pair ty32 ty3)) (rsh := (Rsh.tup [some 5, none])) (pre := none) (fresh := none) (F := Sp.F37) (L := noL) (c := bodyOf Tryz.f37) (dflt := Ty.dflt (Ty.pair ty32 ty3)) rfl (no_loops)
    (fun x fx _ => slim_of (S := ((((!(Sp.F56 x.2.1)) = true → (((0 : Int) == (0 : Int)) = false → (((decide ((0 : Int) > (0 : Int))) = true → ((((0 : Int) == (1 : Int)) && (x.2.2.1 == (1 : Int))) = false → ((((0 : Int) == (3 : Int)) && (x.2.2.1 == (2 : Int))) = false → ((decide ((Sp.F58 (0 : Int)) > x.1.2.2.2.2.2.2.2.1)) = false → (((((0 : Int) == (2 : Int)) && (decide ((IntKind.i64.wrap ((0 : Int) + (1 : Int))) ≥ x.1.2.2.2.2.2.2.1))) && (!x.2.2.2.1)) = false → ((((0 : Int) == (3 : Int)) && x.2.2.2.1) = false → (0 ≤ (0 : Int) ∧ (0 : Int) < (([(0 : Int), (3 : Int), (0 : Int), (4 : Int)]).length : Int)))))))) ∧ ((decide ((0 : Int) > (0 : Int))) = false → ((((0 : Int) == (1 : Int)) && (x.2.2.1 == (1 : Int))) = false → ((((0 : Int) == (3 : Int)) && (x.2.2.1 == (2 : Int))) = false → ((decide ((0 : Int) > x.1.2.2.2.2.2.2.2.1)) = false → (((((0 : Int) == (2 : Int)) && (decide ((IntKind.i64.wrap ((0 : Int) + (1 : Int))) ≥ x.1.2.2.2.2.2.2.1))) && (!x.2.2.2.1)) = false → ((((0 : Int) == (3 : Int)) && x.2.2.2.1) = false → (0 ≤ (0 : Int) ∧ (0 : Int) < (([(0 : Int), (3 : Int), (0 : Int), (4 : Int)]).length : Int))))))))))) ∧ ((!(Sp.F56 x.2.1)) = false → ((x.2.1.1 == (0 : Int)) = false → (((decide (x.2.1.2.2.1 > (0 : Int))) = true → (((x.2.1.1 == (1 : Int)) && (x.2.2.1 == (1 : Int))) = false → (((x.2.1.1 == (3 : Int)) && (x.2.2.1 == (2 : Int))) = false → ((decide ((Sp.F58 x.2.1.2.2.1) > x.1.2.2.2.2.2.2.2.1)) = false → ((((x.2.1.1 == (2 : Int)) && (decide ((IntKind.i64.wrap (x.2.1.2.1 + (1 : Int))) ≥ x.1.2.2.2.2.2.2.1))) && (!x.2.2.2.1)) = false → (((x.2.1.1 == (3 : Int)) && x.2.2.2.1) = false → (0 ≤ x.2.1.1 ∧ x.2.1.1 < (([(0 : Int), (3 : Int), (0 : Int), (4 : Int)]).length : Int)))))))) ∧ ((decide (x.2.1.2.2.1 > (0 : Int))) = false → (((x.2.1.1 == (1 : Int)) && (x.2.2.1 == (1 : Int))) = false → (((x.2.1.1 == (3 : Int)) && (x.2.2.1 == (2 : Int))) = false → ((decide (x.2.1.2.2.1 > x.1.2.2.2.2.2.2.2.1)) = false → ((((x.2.1.1 == (2 : Int)) && (decide ((IntKind.i64.wrap (x.2.1.2.1 + (1 : Int))) ≥ x.1.2.2.2.2.2.2.1))) && (!x.2.2.2.1)) = false → (((x.2.1.1 == (3 : Int)) && x.2.2.2.1) = false → (0 ≤ x.2.1.1 ∧ x.2.1.1 < (([(0 : Int), (3 : Int), (0 : Int), (4 : Int)]).length : Int)))))))))))))) (by kernel_rfl) (by
  try dsimp only [Ty.den] at *
  refine ⟨fun _ h => absurd h (by decide), fun hc h0 => ?_⟩
  have hb0 : ∀ a : Int, a = x.2.1.1 → 0 ≤ a ∧ a ≤ 3 := by
    intro a ha
    simp only [Bool.not_eq_false'] at hc
    unfold Sp.F56 at hc
    rw [h0, cond_false] at hc
    simp only [Bool.and_eq_true, decide_eq_true_eq] at hc
    rw [← ha] at hc
    omega
  have hb : 0 ≤ x.2.1.1 ∧ x.2.1.1 < ((4 : Nat) : Int) := ⟨(hb0 _ rfl).1, Int.lt_of_le_of_lt (hb0 _ rfl).2 (by decide)⟩
  repeat' (first | exact trivial | exact hb | apply And.intro | intro _))) (fun x => by kernel_rfl)
def ct20 : Ct := { p := (Ty.pair ty3 (Ty.pair ty39 (Ty.pair ty3 ty3))), psh := [none, some 6, none, none], r := ty39, rsh := (Rsh.one (some 6)), pre := none, fresh := none, F := Sp.F20 }
theorem ok20 : CtOk Tryz.prog gdS 20 ct20 :=
  fn_okU (ctxOkP pgokPmV0 fvok_none gokGmV1 []) rfl Tryz.func20 (p := (Ty.pair ty3 (Ty.pair ty39 (Ty.pair ty3 ty3)))) (psh := [none, some 6, none, none]) (r := ty39) (rsh := (Rsh.one (some 6))) (pre := none) (fresh := none) (F := Sp.F20) (L := noL) (c := bodyOf Tryz.f20) (dflt := Ty.dflt ty39) rfl (no_loops)
    (fun x fx _ => triv_of (by kernel_rfl)) (fun x => by kernel_rfl)
def ct39 : Ct := { p := (Ty.pair ty27 ty37), psh := [some 8, some 14], r := ty4, rsh := (Rsh.one (none)), pre := none, fresh := none, F := Sp.F39 }
theorem ok39 : CtOk Tryz.prog gdS 39 ct39 :=
  fn_okU (ctxOkP pgokPmV0 fvok_none gokGmV1 []) rfl Tryz.func39 (p := (Ty.pair ty27 ty37)) (psh := [some 8, some 14]) (r := ty4) (rsh := (Rsh.one (none))) (pre := none) (fresh := none) (F := Sp.F39) (L := noL) (c := bodyOf Tryz.f39) (dflt := Ty.dflt ty4) rfl (no_loops)
    (fun x fx _ => safe_of (S := ((((((Sp.F60 x.1) != (0 : Int)) || (x.2.2.2.2.2.2.2 && (!(((x.2.1.1 == (0 : Int)) && (x.2.1.2 == (0 : Int))) && (((x.2.2.1.1 == (0 : Int)) && ((x.2.2.1.2.1 == (0 : Int)) && ((x.2.2.1.2.2.1 == (0 : Int)) && ((x.2.2.1.2.2.2.1 == false) && (x.2.2.1.2.2.2.2 == (0 : Int)))))) && (((x.2.2.2.1.1 == (0 : Int)) && ((x.2.2.2.1.2.1 == (0 : Int)) && (x.2.2.2.1.2.2 == (0 : Int)))) && ((x.2.2.2.2.1 == (0 : Int)) && ((x.2.2.2.2.2.1 == (0 : Int)) && ((x.2.2.2.2.2.2.1 == (0 : Int)) && (x.2.2.2.2.2.2.2 == true)))))))))) = true → True) ∧ ((((Sp.F60 x.1) != (0 : Int)) || (x.2.2.2.2.2.2.2 && (!(((x.2.1.1 == (0 : Int)) && (x.2.1.2 == (0 : Int))) && (((x.2.2.1.1 == (0 : Int)) && ((x.2.2.1.2.1 == (0 : Int)) && ((x.2.2.1.2.2.1 == (0 : Int)) && ((x.2.2.1.2.2.2.1 == false) && (x.2.2.1.2.2.2.2 == (0 : Int)))))) && (((x.2.2.2.1.1 == (0 : Int)) && ((x.2.2.2.1.2.1 == (0 : Int)) && (x.2.2.2.1.2.2 == (0 : Int)))) && ((x.2.2.2.2.1 == (0 : Int)) && ((x.2.2.2.2.2.1 == (0 : Int)) && ((x.2.2.2.2.2.2.1 == (0 : Int)) && (x.2.2.2.2.2.2.2 == true)))))))))) = false → ((((((!(Sp.F61 x.2.1)) || (!(Sp.F62 x.2.2.1))) || (!(Sp.F63 (x.1.1, x.2.2.2.1)))) || ((!((x.2.2.1.1 == (0 : Int)) && ((x.2.2.1.2.1 == (0 : Int)) && ((x.2.2.1.2.2.1 == (0 : Int)) && ((x.2.2.1.2.2.2.1 == false) && (x.2.2.1.2.2.2.2 == (0 : Int))))))) && (!((x.2.2.2.1.1 == (0 : Int)) && ((x.2.2.2.1.2.1 == (0 : Int)) && (x.2.2.2.1.2.2 == (0 : Int))))))) = true → True) ∧ (((((!(Sp.F61 x.2.1)) || (!(Sp.F62 x.2.2.1))) || (!(Sp.F63 (x.1.1, x.2.2.2.1)))) || ((!((x.2.2.1.1 == (0 : Int)) && ((x.2.2.1.2.1 == (0 : Int)) && ((x.2.2.1.2.2.1 == (0 : Int)) && ((x.2.2.1.2.2.2.1 == false) && (x.2.2.1.2.2.2.2 == (0 : Int))))))) && (!((x.2.2.2.1.1 == (0 : Int)) && ((x.2.2.2.1.2.1 == (0 : Int)) && (x.2.2.2.1.2.2 == (0 : Int))))))) = false → ((0 ≤ x.1.1) ∧ True))))))) (by kernel_rfl) (by
  try dsimp only [Ty.den] at *
  refine ⟨fun _ => trivial, fun hc => ?_⟩
  have hv := hc
  simp only [Bool.or_eq_false_iff, bne_eq_false_iff_eq] at hv
  have hb := Sp.valid_b (Sp.fit_cars fx.1) hv.1
  have hfl := hb.fl
  repeat' (first | exact trivial | apply And.intro | intro _)
  all_goals omega)) (fun x => by kernel_rfl)
def ct84 : Ct := { p := (Ty.pair ty3 (Ty.pair ty34 (Ty.pair ty59 ty3))), psh := [none, some 3, some 4, none], r := (Ty.pair ty34 (Ty.pair ty3 ty4)), rsh := (Rsh.tup [some 3, none, none]), pre := none, fresh := none, F := Sp.F84 }
theorem ok84 : CtOk Tryz.prog gdS 84 ct84 :=
  fn_okU (ctxOkP pgokPmV0 fvok_none gokGmV1 []) rfl Tryz.func84 (p := (Ty.pair ty3 (Ty.pair ty34 (Ty.pair ty59 ty3)))) (psh := [none, some 3, some 4, none]) (r := (Ty.pair ty34 (Ty.pair ty3 ty4))) (rsh := (Rsh.tup [some 3, none, none])) (pre := none) (fresh := none) (F := Sp.F84) (L := noL) (c := bodyOf Tryz.f84) (dflt := Ty.dflt (Ty.pair ty34 (Ty.pair ty3 ty4))) rfl (no_loops)
    (fun x fx _ => triv_of (by kernel_rfl)) (fun x => by kernel_rfl)
def ct65 : Ct := { p := (Ty.pair ty53 (Ty.pair ty32 (Ty.pair ty3 (Ty.pair ty4 ty4)))), psh := [some 9, some 5, none, none, none], r := (Ty.pair ty32 ty3), rsh := (Rsh.tup [some 5, none]), pre := none, fresh := none, F := Sp.F65 }
theorem ok65 : CtOk Tryz.prog gdS 65 ct65 :=
  fn_okU (ctxOkP pgokPmV0 fvok_none gokGmV1 []) rfl Tryz.func65 (p := (Ty.pair ty53 (Ty.pair ty32 (Ty.pair ty3 (Ty.pair ty4 ty4))))) (psh := [some 9, some 5, none, none, none]) (r := (Ty.pair ty32 ty3)) (rsh := (Rsh.tup [some 5, none])) (pre := none) (fresh := none) (F := Sp.F65) (L := noL) (c := bodyOf Tryz.f65) (dflt := Ty.dflt (Ty.pair ty32 ty3)) rfl (no_loops)
    (fun x fx _ => triv_of (by kernel_rfl)) (fun x => by kernel_rfl)
def ct15 : Ct := { p := (Ty.pair ty3 (Ty.pair ty39 (Ty.pair ty3 ty3))), psh := [none, some 6, none, none], r := ty39, rsh := (Rsh.one (some 6)), pre := none, fresh := none, F := Sp.F15 }
theorem ok15 : CtOk Tryz.prog gdS 15 ct15 :=
  fn_okU (ctxOkP pgokPmV0 fvok_none gokGmV1 []) rfl Tryz.func15 (p := (Ty.pair ty3 (Ty.pair ty39 (Ty.pair ty3 ty3)))) (psh := [none, some 6, none, none]) (r := ty39) (rsh := (Rsh.one (some 6))) (pre := none) (fresh := none) (F := Sp.F15) (L := noL) (c := bodyOf Tryz.f15) (dflt := Ty.dflt ty39) rfl (no_loops)
    (fun x fx _ => triv_of (by kernel_rfl)) (fun x => by kernel_rfl)
def GmV2 : List (Nat × Ct) := (46, ct46) :: (34, ct34) :: (37, ct37) :: (20, ct20) :: (39, ct39) :: (84, ct84) :: (65, ct65) :: (15, ct15) :: GmV1
theorem gokGmV2 : GOk GmV2 := gok_cons ok46 ⟨_, Tryz.func46, by kernel_rfl, by kernel_rfl⟩ (gok_cons ok34 ⟨_, Tryz.func34, by kernel_rfl, by kernel_rfl⟩ (gok_cons ok37 ⟨_, Tryz.func37, by kernel_rfl, by kernel_rfl⟩ (gok_cons ok20 ⟨_, Tryz.func20, by kernel_rfl, by kernel_rfl⟩ (gok_cons ok39 ⟨_, Tryz.func39, by kernel_rfl, by kernel_rfl⟩ (gok_cons ok84 ⟨_, Tryz.func84, by kernel_rfl, by kernel_rfl⟩ (gok_cons ok65 ⟨_, Tryz.func65, by kernel_rfl, by kernel_rfl⟩ (gok_cons ok15 ⟨_, Tryz.func15, by kernel_rfl, by kernel_rfl⟩ (gokGmV1))))))))
end Go.Proofs.YtngbcgnihbjfnaaGreatDoor.Sy
end

section
/- Contracts of functions, by the evaluator (own program gen.py): overlayref15.known, overlayref15.decide, newcar.isCar, <*newcar.control>.step, <*newcar.control>.cycle, overlaylaw16.sane. -/
set_option linter.unusedVariables false
set_option linter.unusedSimpArgs false
set_option maxRecDepth 100000
namespace Go.Proofs.YtngbcgnihbjfnaaGreatDoor.Sp
open Go Go.RowKit Sy
def F32 (x : BldT × Int × (Int × Int) × (Int × Int × Int × Bool × Int) × (Int × Int × Int) × Int × Int × Int × Bool) : Bool :=
  (((Sp.F46 (x.1, x.2.2)) && (decide (x.2.1 ≥ (0 : Int)))) && (decide (x.2.1 < ((x.1.2.2.2.2.2.2.2).length : Int))))
def K36_1 (x : BldT × Int × CarS × FbT × Int × Int) :=
  (Sp.F35 (x.1, x.2.1, ((Sp.F54 (x.1.1, x.2.2.1.1, x.2.2.2.1.1, x.2.2.1.2.2.2.1, x.2.2.2.2)), (Sp.F37 ((Sp.nthT x.1.2.2.2.2.2.2.2 x.2.1), x.2.2.1.2.1, x.2.2.2.1.2.2.1, x.2.2.2.1.2.2.2, true)).1, x.2.2.1.2.2.1, x.2.2.1.2.2.2.1, (Sp.F53 (x.1.1, x.2.2.1.1, x.2.2.2.1.1, x.2.2.1.2.2.2.1, x.2.2.2.2)).2.2, (0 : Int), x.2.2.1.2.2.2.2.2.2), (Sp.F37 ((Sp.nthT x.1.2.2.2.2.2.2.2 x.2.1), x.2.2.1.2.1, x.2.2.2.1.2.2.1, x.2.2.2.1.2.2.2, true)).2))
def K36_2 (x : BldT × Int × CarS × FbT × Int × Int) :=
  (Sp.F35 (x.1, x.2.1, ((Sp.F54 (x.1.1, x.2.2.1.1, x.2.2.2.1.1, x.2.2.1.2.2.2.1, x.2.2.2.2)), x.2.2.1.2.1, (Sp.F34 (x.1.1, x.2.2.1.2.2.1, x.2.2.2.1, (Sp.F53 (x.1.1, x.2.2.1.1, x.2.2.2.1.1, x.2.2.1.2.2.2.1, x.2.2.2.2)).1)).1, x.2.2.1.2.2.2.1, x.2.2.1.2.2.2.2.1, (0 : Int), x.2.2.1.2.2.2.2.2.2), (Sp.F34 (x.1.1, x.2.2.1.2.2.1, x.2.2.2.1, (Sp.F53 (x.1.1, x.2.2.1.1, x.2.2.2.1.1, x.2.2.1.2.2.2.1, x.2.2.2.2)).1)).2.1))
def K36_3 (x : BldT × Int × CarS × FbT × Int × Int) :=
  (Sp.F35 (x.1, x.2.1, ((Sp.F54 (x.1.1, x.2.2.1.1, x.2.2.2.1.1, x.2.2.1.2.2.2.1, x.2.2.2.2)), x.2.2.1.2.1, (Sp.F34 (x.1.1, x.2.2.1.2.2.1, x.2.2.2.1, (Sp.F55 (x.1, x.2.1, x.2.2.1.2.2.2.2.2.1, x.2.2.2.1.1)))).1, x.2.2.1.2.2.2), (Sp.F34 (x.1.1, x.2.2.1.2.2.1, x.2.2.2.1, (Sp.F55 (x.1, x.2.1, x.2.2.1.2.2.2.2.2.1, x.2.2.2.1.1)))).2.1))
def K36_4 (x : BldT × Int × CarS × FbT × Int × Int) :=
  (Sp.F35 (x.1, x.2.1, ((Sp.F54 (x.1.1, x.2.2.1.1, x.2.2.2.1.1, x.2.2.1.2.2.2.1, x.2.2.2.2)), x.2.2.1.2.1, x.2.2.1.2.2.1, x.2.2.1.2.2.2.1, x.2.2.1.2.2.2.2.1, (min (IntKind.i64.wrap (x.2.2.1.2.2.2.2.2.1 + (1 : Int))) (1000000 : Int)), x.2.2.1.2.2.2.2.2.2), (0 : Int)))
def F36 (x : BldT × Int × CarS × FbT × Int × Int) : CarS × Int × Int :=
  bif ((Sp.F53 (x.1.1, x.2.2.1.1, x.2.2.2.1.1, x.2.2.1.2.2.2.1, x.2.2.2.2)).1 == (3 : Int)) then
    (Sp.K36_1 x)
  else
    bif ((Sp.F53 (x.1.1, x.2.2.1.1, x.2.2.2.1.1, x.2.2.1.2.2.2.1, x.2.2.2.2)).1 == (1 : Int)) then
      (bif ((Sp.F53 (x.1.1, x.2.2.1.1, x.2.2.2.1.1, x.2.2.1.2.2.2.1, x.2.2.2.2)).1 == (1 : Int)) then
        (Sp.K36_2 x)
      else
        bif ((Sp.F55 (x.1, x.2.1, x.2.2.1.2.2.2.2.2.1, x.2.2.2.1.1)) != (0 : Int)) then
          (Sp.K36_3 x)
        else
          (Sp.K36_4 x))
    else
      bif ((Sp.F53 (x.1.1, x.2.2.1.1, x.2.2.2.1.1, x.2.2.1.2.2.2.1, x.2.2.2.2)).1 == (2 : Int)) then
        (Sp.K36_2 x)
      else
        bif ((Sp.F55 (x.1, x.2.1, x.2.2.1.2.2.2.2.2.1, x.2.2.2.1.1)) != (0 : Int)) then
          (Sp.K36_3 x)
        else
          (Sp.K36_4 x)
def pre36 (x : BldT × Int × CarS × FbT × Int × Int) : Prop := 0 ≤ x.2.1 ∧ x.2.1 < (x.1.2.2.2.2.2.2.2.length : Int)
def F22 (x : BldT × Int × (Int × Int) × (Int × Int × Int × Bool × Int) × (Int × Int × Int) × Int × Int × Int × Bool) : Bool :=
  (((Sp.F39 (x.1, x.2.2)) && (decide (x.2.1 ≥ (0 : Int)))) && (decide (x.2.1 < ((x.1.2.2.2.2.2.2.2).length : Int))))
def F64 (x : Int × BldT × Int × CarS × FbT × Int) : (Bool) × (BldT × Int × CarS × FbT × Int) :=
  ((Sp.F84 (x.2.1.1, x.2.2.2.1.2.2.1, x.2.2.2.2.1, x.1)).2.2, (x.2.1, x.2.2.1, (x.2.2.2.1.1, x.2.2.2.1.2.1, (Sp.F84 (x.2.1.1, x.2.2.2.1.2.2.1, x.2.2.2.2.1, x.1)).1, x.2.2.2.1.2.2.2), x.2.2.2.2.1, (Sp.F84 (x.2.1.1, x.2.2.2.1.2.2.1, x.2.2.2.2.1, x.1)).2.1))
def F42 (x : BldT × Int × CarS × FbT × Int) : (Unit) × (BldT × Int × CarS × FbT × Int) :=
  bif ((Sp.F65 ((Sp.F26 x).1, x.2.2.1.2.1, x.2.2.2.1.2.2.1, x.2.2.2.1.2.2.2, false)).1.1 == (2 : Int)) then
    ((), (x.1, x.2.1, (x.2.2.1.1, (Sp.F65 ((Sp.F26 x).1, x.2.2.1.2.1, x.2.2.2.1.2.2.1, x.2.2.2.1.2.2.2, false)).1, x.2.2.1.2.2.1, (IntKind.u32.wrap ((BitVec.ofInt IntKind.u32.bits x.2.2.1.2.2.2.1 &&& ~~~ BitVec.ofInt IntKind.u32.bits (IntKind.u32.wrap ((1 : Int) * 2 ^ (min (x.2.2.2.1.1).toNat IntKind.u32.bits)))).toNat : Int)), x.2.2.1.2.2.2.2.1, (0 : Int), x.2.2.1.2.2.2.2.2.2), x.2.2.2.1, (Sp.F65 ((Sp.F26 x).1, x.2.2.1.2.1, x.2.2.2.1.2.2.1, x.2.2.2.1.2.2.2, false)).2))
  else
    bif ((Sp.F65 ((Sp.F26 x).1, x.2.2.1.2.1, x.2.2.2.1.2.2.1, x.2.2.2.1.2.2.2, false)).1.1 == (0 : Int)) then
      ((), (x.1, x.2.1, (x.2.2.1.1, (Sp.F65 ((Sp.F26 x).1, x.2.2.1.2.1, x.2.2.2.1.2.2.1, x.2.2.2.1.2.2.2, false)).1, x.2.2.1.2.2.1, x.2.2.1.2.2.2.1, (0 : Int), (0 : Int), x.2.2.1.2.2.2.2.2.2), x.2.2.2.1, (Sp.F65 ((Sp.F26 x).1, x.2.2.1.2.1, x.2.2.2.1.2.2.1, x.2.2.2.1.2.2.2, false)).2))
    else
      ((), (x.1, x.2.1, (x.2.2.1.1, (Sp.F65 ((Sp.F26 x).1, x.2.2.1.2.1, x.2.2.2.1.2.2.1, x.2.2.2.1.2.2.2, false)).1, x.2.2.1.2.2.1, x.2.2.1.2.2.2.1, x.2.2.1.2.2.2.2.1, (0 : Int), x.2.2.1.2.2.2.2.2.2), x.2.2.2.1, (Sp.F65 ((Sp.F26 x).1, x.2.2.1.2.1, x.2.2.2.1.2.2.1, x.2.2.2.1.2.2.2, false)).2))
def pre42 (x : BldT × Int × CarS × FbT × Int) : Prop := Sp.CtlOk x
def F8 (x : Unit) : Bool :=
  (((((((Sp.F15 ((5 : Int), (Sp.F16 (2 : Int)), (1 : Int), (3 : Int))).2.2.1 == (2 : Int)) && (((Sp.F14 ((Sp.F15 ((5 : Int), (Sp.F16 (2 : Int)), (1 : Int), (3 : Int))), true)).1 == (2 : Int)) && (((Sp.F14 ((Sp.F15 ((5 : Int), (Sp.F16 (2 : Int)), (1 : Int), (3 : Int))), true)).2.1 == false) && (((Sp.F14 ((Sp.F15 ((5 : Int), (Sp.F16 (2 : Int)), (1 : Int), (3 : Int))), true)).2.2.1 == (2 : Int)) && ((Sp.F14 ((Sp.F15 ((5 : Int), (Sp.F16 (2 : Int)), (1 : Int), (3 : Int))), true)).2.2.2 == true))))) && ((Sp.F15 ((5 : Int), (Sp.F15 ((5 : Int), (Sp.F16 (2 : Int)), (1 : Int), (3 : Int))), (0 : Int), (1 : Int))).1 == (2 : Int))) && ((Sp.F15 ((5 : Int), (Sp.F15 ((5 : Int), (Sp.F15 ((5 : Int), (Sp.F16 (2 : Int)), (1 : Int), (3 : Int))), (0 : Int), (1 : Int))), (0 : Int), (1 : Int))).1 == (3 : Int))) && (Sp.F14 ((Sp.F15 ((5 : Int), (Sp.F15 ((5 : Int), (Sp.F15 ((5 : Int), (Sp.F16 (2 : Int)), (1 : Int), (3 : Int))), (0 : Int), (1 : Int))), (0 : Int), (1 : Int))), false)).2.1) && (!(Sp.F12 ((5 : Int), (0 : Int), (2 : Int), (0 : Int), (0 : Int), (0 : Int), (0 : Int)))))
end Go.Proofs.YtngbcgnihbjfnaaGreatDoor.Sp
namespace Go.Proofs.YtngbcgnihbjfnaaGreatDoor.Sy
open Go Go.RowKit Sp
def ct32 : Ct := { p := (Ty.pair ty27 (Ty.pair ty3 ty37)), psh := [some 8, none, some 14], r := ty4, rsh := (Rsh.one (none)), pre := none, fresh := none, F := Sp.F32 }
theorem ok32 : CtOk Tryz.prog gdS 32 ct32 :=
  fn_okU (ctxOkP pgokPmV0 fvok_none gokGmV2 []) rfl Tryz.func32 (p := (Ty.pair ty27 (Ty.pair ty3 ty37))) (psh := [some 8, none, some 14]) (r := ty4) (rsh := (Rsh.one (none))) (pre := none) (fresh := none) (F := Sp.F32) (L := noL) (c := bodyOf Tryz.f32) (dflt := Ty.dflt ty4) rfl (no_loops)
    (fun x fx _ => triv_of (by kernel_rfl)) (fun x => by kernel_rfl)
def ct36 : Ct := { p := (Ty.pair ty27 (Ty.pair ty3 (Ty.pair ty37 (Ty.pair ty59 ty44)))), psh := [some 8, none, some 14, some 4, some 2], r := (Ty.pair ty37 (Ty.pair ty3 ty45)), rsh := (Rsh.tup [some 14, none, none]), pre := some Sp.pre36, fresh := none, F := Sp.F36 }
theorem ok36 : CtOk Tryz.prog gdS 36 ct36 :=
  fn_okU (ctxOkP pgokPmV0 fvok_none gokGmV2 []) rfl Tryz.func36 (p := (Ty.pair ty27 (Ty.pair ty3 (Ty.pair ty37 (Ty.pair ty59 ty44))))) (psh := [some 8, none, some 14, some 4, some 2]) (r := (Ty.pair ty37 (Ty.pair ty3 ty45))) (rsh := (Rsh.tup [some 14, none, none])) (pre := some Sp.pre36) (fresh := none) (F := Sp.F36) (L := noL) (c := bodyOf Tryz.f36) (dflt := Ty.dflt (Ty.pair ty37 (Ty.pair ty3 ty45))) rfl (no_loops)
    (fun x fx hq => have h := hq _ rfl; safe_of (S := (((0 ≤ x.2.1 ∧ x.2.1 < ((x.1.2.2.2.2.2.2.2).length : Int)) ∧ ((((Sp.F53 (x.1.1, x.2.2.1.1, x.2.2.2.1.1, x.2.2.1.2.2.2.1, x.2.2.2.2)).1 == (3 : Int)) = true → ((Sp.pre35 (x.1, x.2.1, ((Sp.F54 (x.1.1, x.2.2.1.1, x.2.2.2.1.1, x.2.2.1.2.2.2.1, x.2.2.2.2)), (Sp.F37 ((Sp.nthT x.1.2.2.2.2.2.2.2 x.2.1), x.2.2.1.2.1, x.2.2.2.1.2.2.1, x.2.2.2.1.2.2.2, true)).1, x.2.2.1.2.2.1, x.2.2.1.2.2.2.1, (Sp.F53 (x.1.1, x.2.2.1.1, x.2.2.2.1.1, x.2.2.1.2.2.2.1, x.2.2.2.2)).2.2, (0 : Int), x.2.2.1.2.2.2.2.2.2), (Sp.F37 ((Sp.nthT x.1.2.2.2.2.2.2.2 x.2.1), x.2.2.1.2.1, x.2.2.2.1.2.2.1, x.2.2.2.1.2.2.2, true)).2)) ∧ True)) ∧ (((Sp.F53 (x.1.1, x.2.2.1.1, x.2.2.2.1.1, x.2.2.1.2.2.2.1, x.2.2.2.2)).1 == (3 : Int)) = false → ((((Sp.F53 (x.1.1, x.2.2.1.1, x.2.2.2.1.1, x.2.2.1.2.2.2.1, x.2.2.2.2)).1 == (1 : Int)) = true → ((((Sp.F53 (x.1.1, x.2.2.1.1, x.2.2.2.1.1, x.2.2.1.2.2.2.1, x.2.2.2.2)).1 == (1 : Int)) = true → ((Sp.pre35 (x.1, x.2.1, ((Sp.F54 (x.1.1, x.2.2.1.1, x.2.2.2.1.1, x.2.2.1.2.2.2.1, x.2.2.2.2)), x.2.2.1.2.1, (Sp.F34 (x.1.1, x.2.2.1.2.2.1, x.2.2.2.1, (Sp.F53 (x.1.1, x.2.2.1.1, x.2.2.2.1.1, x.2.2.1.2.2.2.1, x.2.2.2.2)).1)).1, x.2.2.1.2.2.2.1, x.2.2.1.2.2.2.2.1, (0 : Int), x.2.2.1.2.2.2.2.2.2), (Sp.F34 (x.1.1, x.2.2.1.2.2.1, x.2.2.2.1, (Sp.F53 (x.1.1, x.2.2.1.1, x.2.2.2.1.1, x.2.2.1.2.2.2.1, x.2.2.2.2)).1)).2.1)) ∧ True)) ∧ (((Sp.F53 (x.1.1, x.2.2.1.1, x.2.2.2.1.1, x.2.2.1.2.2.2.1, x.2.2.2.2)).1 == (1 : Int)) = false → ((((Sp.F55 (x.1, x.2.1, x.2.2.1.2.2.2.2.2.1, x.2.2.2.1.1)) != (0 : Int)) = true → ((Sp.pre35 (x.1, x.2.1, ((Sp.F54 (x.1.1, x.2.2.1.1, x.2.2.2.1.1, x.2.2.1.2.2.2.1, x.2.2.2.2)), x.2.2.1.2.1, (Sp.F34 (x.1.1, x.2.2.1.2.2.1, x.2.2.2.1, (Sp.F55 (x.1, x.2.1, x.2.2.1.2.2.2.2.2.1, x.2.2.2.1.1)))).1, x.2.2.1.2.2.2), (Sp.F34 (x.1.1, x.2.2.1.2.2.1, x.2.2.2.1, (Sp.F55 (x.1, x.2.1, x.2.2.1.2.2.2.2.2.1, x.2.2.2.1.1)))).2.1)) ∧ True)) ∧ (((Sp.F55 (x.1, x.2.1, x.2.2.1.2.2.2.2.2.1, x.2.2.2.1.1)) != (0 : Int)) = false → ((Sp.pre35 (x.1, x.2.1, ((Sp.F54 (x.1.1, x.2.2.1.1, x.2.2.2.1.1, x.2.2.1.2.2.2.1, x.2.2.2.2)), x.2.2.1.2.1, x.2.2.1.2.2.1, x.2.2.1.2.2.2.1, x.2.2.1.2.2.2.2.1, (min (IntKind.i64.wrap (x.2.2.1.2.2.2.2.2.1 + (1 : Int))) (1000000 : Int)), x.2.2.1.2.2.2.2.2.2), (0 : Int))) ∧ True)))))) ∧ (((Sp.F53 (x.1.1, x.2.2.1.1, x.2.2.2.1.1, x.2.2.1.2.2.2.1, x.2.2.2.2)).1 == (1 : Int)) = false → ((((Sp.F53 (x.1.1, x.2.2.1.1, x.2.2.2.1.1, x.2.2.1.2.2.2.1, x.2.2.2.2)).1 == (2 : Int)) = true → ((Sp.pre35 (x.1, x.2.1, ((Sp.F54 (x.1.1, x.2.2.1.1, x.2.2.2.1.1, x.2.2.1.2.2.2.1, x.2.2.2.2)), x.2.2.1.2.1, (Sp.F34 (x.1.1, x.2.2.1.2.2.1, x.2.2.2.1, (Sp.F53 (x.1.1, x.2.2.1.1, x.2.2.2.1.1, x.2.2.1.2.2.2.1, x.2.2.2.2)).1)).1, x.2.2.1.2.2.2.1, x.2.2.1.2.2.2.2.1, (0 : Int), x.2.2.1.2.2.2.2.2.2), (Sp.F34 (x.1.1, x.2.2.1.2.2.1, x.2.2.2.1, (Sp.F53 (x.1.1, x.2.2.1.1, x.2.2.2.1.1, x.2.2.1.2.2.2.1, x.2.2.2.2)).1)).2.1)) ∧ True)) ∧ (((Sp.F53 (x.1.1, x.2.2.1.1, x.2.2.2.1.1, x.2.2.1.2.2.2.1, x.2.2.2.2)).1 == (2 : Int)) = false → ((((Sp.F55 (x.1, x.2.1, x.2.2.1.2.2.2.2.2.1, x.2.2.2.1.1)) != (0 : Int)) = true → ((Sp.pre35 (x.1, x.2.1, ((Sp.F54 (x.1.1, x.2.2.1.1, x.2.2.2.1.1, x.2.2.1.2.2.2.1, x.2.2.2.2)), x.2.2.1.2.1, (Sp.F34 (x.1.1, x.2.2.1.2.2.1, x.2.2.2.1, (Sp.F55 (x.1, x.2.1, x.2.2.1.2.2.2.2.2.1, x.2.2.2.1.1)))).1, x.2.2.1.2.2.2), (Sp.F34 (x.1.1, x.2.2.1.2.2.1, x.2.2.2.1, (Sp.F55 (x.1, x.2.1, x.2.2.1.2.2.2.2.2.1, x.2.2.2.1.1)))).2.1)) ∧ True)) ∧ (((Sp.F55 (x.1, x.2.1, x.2.2.1.2.2.2.2.2.1, x.2.2.2.1.1)) != (0 : Int)) = false → ((Sp.pre35 (x.1, x.2.1, ((Sp.F54 (x.1.1, x.2.2.1.1, x.2.2.2.1.1, x.2.2.1.2.2.2.1, x.2.2.2.2)), x.2.2.1.2.1, x.2.2.1.2.2.1, x.2.2.1.2.2.2.1, x.2.2.1.2.2.2.2.1, (min (IntKind.i64.wrap (x.2.2.1.2.2.2.2.2.1 + (1 : Int))) (1000000 : Int)), x.2.2.1.2.2.2.2.2.2), (0 : Int))) ∧ True)))))))))))) (by kernel_rfl) (by
  try dsimp only [Ty.den] at *
  unfold Sp.pre36 at h
  repeat' (first | exact trivial | exact h | apply And.intro | intro _))) (fun x => by kernel_rfl)
def ct22 : Ct := { p := (Ty.pair ty27 (Ty.pair ty3 ty37)), psh := [some 8, none, some 14], r := ty4, rsh := (Rsh.one (none)), pre := none, fresh := none, F := Sp.F22 }
theorem ok22 : CtOk Tryz.prog gdS 22 ct22 :=
  fn_okU (ctxOkP pgokPmV0 fvok_none gokGmV2 []) rfl Tryz.func22 (p := (Ty.pair ty27 (Ty.pair ty3 ty37))) (psh := [some 8, none, some 14]) (r := ty4) (rsh := (Rsh.one (none))) (pre := none) (fresh := none) (F := Sp.F22) (L := noL) (c := bodyOf Tryz.f22) (dflt := Ty.dflt ty4) rfl (no_loops)
    (fun x fx _ => triv_of (by kernel_rfl)) (fun x => by kernel_rfl)
def cp64 : Cp := { p := (Ty.pair ty3 ty67), psh := [none], mask := [true, false], sz := [28], ro := false, ex := false, q := ty67, r := ty4, rsh := (Rsh.one (none)), pre := none, F := Sp.F64 }
theorem va64 (x : (Ty.pair ty3 ty67).den) : ((evFnP (ctxP PmV0 none GmV2 []) Tryz.f64 (Ty.pair ty3 ty67) [none] [true, false] [28] false false ty67 (Rsh.one (none)) ty4 noL x)).val (fun _ => (Ty.dflt ty4, Ty.dflt ty67)) (Ty.dflt ty4, Ty.dflt ty67) = Sp.F64 x := by kernel_rfl
theorem sa64 (x : (Ty.pair ty3 ty67).den) (fx : Fit (Ty.pair ty3 ty67) x) : SafeW ((evFnP (ctxP PmV0 none GmV2 []) Tryz.f64 (Ty.pair ty3 ty67) [none] [true, false] [28] false false ty67 (Rsh.one (none)) ty4 noL x)) := triv_of (by kernel_rfl)
theorem ok64 : CpOk Tryz.prog gdS 64 cp64 :=
  fn_okPU (ctxOkP pgokPmV0 fvok_none gokGmV2 []) rfl Tryz.func64 cp64 (L := noL) (c := bodyOf Tryz.f64) (dflt := (Ty.dflt ty4, Ty.dflt ty67)) rfl (no_loops)
    (safe_noP rfl @sa64) va64
def cp42 : Cp := { p := ty67, psh := [], mask := [true], sz := [28], ro := false, ex := false, q := ty67, r := Ty.unit, rsh := Rsh.none, pre := some Sp.pre42, F := Sp.F42 }
theorem va42 (x : ty67.den) : ((evFnP (ctxP PmV0 none GmV2 []) Tryz.f42 ty67 [] [true] [28] false false ty67 Rsh.none Ty.unit noL x)).val (fun _ => (Ty.dflt Ty.unit, Ty.dflt ty67)) (Ty.dflt Ty.unit, Ty.dflt ty67) = Sp.F42 x := by kernel_rfl
theorem sa42 (x : ty67.den) (fx : Fit ty67 x) (h : Sp.pre42 x) : SafeW ((evFnP (ctxP PmV0 none GmV2 []) Tryz.f42 ty67 [] [true] [28] false false ty67 Rsh.none Ty.unit noL x)) := safe_of (S := (((Sp.pre26 x) ∧ ((((Sp.F65 ((Sp.F26 x).1, x.2.2.1.2.1, x.2.2.2.1.2.2.1, x.2.2.2.1.2.2.2, false)).1.1 == (2 : Int)) = true → ((0 ≤ x.2.2.2.1.1) ∧ True)) ∧ (((Sp.F65 ((Sp.F26 x).1, x.2.2.1.2.1, x.2.2.2.1.2.2.1, x.2.2.2.1.2.2.2, false)).1.1 == (2 : Int)) = false → ((((Sp.F65 ((Sp.F26 x).1, x.2.2.1.2.1, x.2.2.2.1.2.2.1, x.2.2.2.1.2.2.2, false)).1.1 == (0 : Int)) = true → True) ∧ (((Sp.F65 ((Sp.F26 x).1, x.2.2.1.2.1, x.2.2.2.1.2.2.1, x.2.2.2.1.2.2.2, false)).1.1 == (0 : Int)) = false → True))))))) (by kernel_rfl) (by
  try dsimp only [Ty.den] at *
  unfold Sp.pre42 at h
  exact ⟨h, fun _ => ⟨h.2.2.2, trivial⟩, fun _ => ⟨fun _ => trivial, fun _ => trivial⟩⟩)
theorem ok42 : CpOk Tryz.prog gdS 42 cp42 :=
  fn_okPU (ctxOkP pgokPmV0 fvok_none gokGmV2 []) rfl Tryz.func42 cp42 (L := noL) (c := bodyOf Tryz.f42) (dflt := (Ty.dflt Ty.unit, Ty.dflt ty67)) rfl (no_loops)
    (safe_preP rfl @sa42) va42
def ct8 : Ct := { p := Ty.unit, psh := [], r := ty4, rsh := (Rsh.one (none)), pre := none, fresh := none, F := Sp.F8 }
theorem ok8 : CtOk Tryz.prog gdS 8 ct8 :=
  fn_okU (ctxOkP pgokPmV0 fvok_none gokGmV2 []) rfl Tryz.func8 (p := Ty.unit) (psh := []) (r := ty4) (rsh := (Rsh.one (none))) (pre := none) (fresh := none) (F := Sp.F8) (L := noL) (c := bodyOf Tryz.f8) (dflt := Ty.dflt ty4) rfl (no_loops)
    (fun x fx _ => triv_of (by kernel_rfl)) (fun x => by kernel_rfl)
def PmV3 : List (Nat × Cp) := (64, cp64) :: (42, cp42) :: PmV0
theorem pgokPmV3 : PGOk PmV3 := pgok_cons ok64 ⟨_, Tryz.func64, by kernel_rfl, by kernel_rfl⟩ (pgok_cons ok42 ⟨_, Tryz.func42, by kernel_rfl, by kernel_rfl⟩ (pgokPmV0))
def GmV3 : List (Nat × Ct) := (32, ct32) :: (36, ct36) :: (22, ct22) :: (8, ct8) :: GmV2
theorem gokGmV3 : GOk GmV3 := gok_cons ok32 ⟨_, Tryz.func32, by kernel_rfl, by kernel_rfl⟩ (gok_cons ok36 ⟨_, Tryz.func36, by kernel_rfl, by kernel_rfl⟩ (gok_cons ok22 ⟨_, Tryz.func22, by kernel_rfl, by kernel_rfl⟩ (gok_cons ok8 ⟨_, Tryz.func8, by kernel_rfl, by kernel_rfl⟩ (gokGmV2))))
end Go.Proofs.YtngbcgnihbjfnaaGreatDoor.Sy
end

section
/- What the walk of newcar.Step needs of its guard (own work). -/
namespace Go.Proofs.YtngbcgnihbjfnaaGreatDoor.Sp
open Go Sy
theorem iscar_b {x : BldT × Int × CarS} (h : Sp.F22 x = true) :
    Sp.F60 x.1 = 0 ∧ 0 ≤ x.2.1 ∧ x.2.1 < (x.1.2.2.2.2.2.2.2.length : Int) := by
  unfold Sp.F22 at h
  simp only [Bool.and_eq_true, decide_eq_true_eq] at h
  refine ⟨?_, h.1.2, h.2⟩
  have h1 := h.1.1
  unfold Sp.F39 at h1
  rw [cond_eq_ite] at h1
  split at h1
  · exact absurd h1 (by simp)
  · rename_i hv
    simp only [Bool.not_eq_true, Bool.or_eq_false_iff, bne_eq_false_iff_eq] at hv
    exact hv.1
end Go.Proofs.YtngbcgnihbjfnaaGreatDoor.Sp
end

section
/- What the walk of the reference needs of its guard (own work). -/
namespace Go.Proofs.YtngbcgnihbjfnaaGreatDoor.Sp
open Go Sy
theorem rknown_b {x : BldT × Int × CarS} (h : Sp.F32 x = true) : 0 ≤ x.2.1 ∧ x.2.1 < (x.1.2.2.2.2.2.2.2.length : Int) := by
  unfold Sp.F32 at h
  simp only [Bool.and_eq_true, decide_eq_true_eq] at h
  exact ⟨h.1.2, h.2⟩
end Go.Proofs.YtngbcgnihbjfnaaGreatDoor.Sp
end
