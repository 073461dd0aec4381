/- Bounds and hall calls of any building (own work; lines of BuF, BuJ, BuK). -/
import Derived.Test.YtghlpolodjlgjaaB4
import Derived.Test.YtghlpolodjlgjaaBuD
import Derived.Test.YtghlpolodjlgjaaTr
namespace Go.Proofs.Ytghlpolodjlgjaa.Sp
open Go Sy
set_option linter.unusedVariables false
set_option linter.unusedSimpArgs false
instance (b : BldT) : Decidable (IsB b) := decidable_of_iff (vld b = 0) (vld_zero b)
def svc (fl : Int) (c : CarT) : Int := (3 * fl + 1) * (3 * (2 * c.2.2.2.2.2.1 + c.2.2.2.2.2.2.2.1 + 3) + c.2.2.2.2.1 + 2)
structure CarB (c : CarT) : Prop where
  dl : 1 ≤ c.1 ∧ c.1 ≤ 10000
  st : 1 ≤ c.2.2.2.2.1 ∧ c.2.2.2.2.1 ≤ 10000
  tr : 1 ≤ c.2.2.2.2.2.1 ∧ c.2.2.2.2.2.1 ≤ 10000
  ho : 1 ≤ c.2.2.2.2.2.2.2.1 ∧ c.2.2.2.2.2.2.2.1 ≤ 10000
theorem carB_of {fl : Int} {c : CarT} (h : carOk fl c = true) : CarB c := by
  simp only [carOk, tOk, Bool.and_eq_true, decide_eq_true_eq] at h
  exact ⟨by omega, by omega, by omega, by omega⟩
theorem svc_rng {fl : Int} {c : CarT} (hf : 2 ≤ fl ∧ fl ≤ 32) (h : CarB c) : 0 < svc fl c ∧ svc fl c ≤ 9709700 := by
  have h1 := h.st; have h2 := h.tr; have h3 := h.ho
  unfold svc
  generalize ha : 3 * fl + 1 = a
  generalize hb : 3 * (2 * c.2.2.2.2.2.1 + c.2.2.2.2.2.2.2.1 + 3) + c.2.2.2.2.1 + 2 = b
  constructor
  · exact Int.mul_pos (by omega) (by omega)
  · calc a * b ≤ 97 * 100100 := Int.mul_le_mul (by omega) (by omega) (by omega) (by omega)
      _ = 9709700 := by decide
theorem service44 {fl : Int} {c : CarT} (hf : 2 ≤ fl ∧ fl ≤ 32) (h : CarB c) : F23 (fl, c) = svc fl c := by
  have h1 := h.st; have h2 := h.tr; have h3 := h.ho; have h4 := svc_rng hf h
  have hc : F25 c = 2 * c.2.2.2.2.2.1 + c.2.2.2.2.2.2.2.1 + 3 := by
    unfold F25
    simp (disch := omega) only [wrap_i64_of]
  unfold F23
  simp only [hc]
  unfold svc at h4 ⊢
  rw [wrap_i64_of (x := 3 * fl) (by omega) (by omega), wrap_i64_of (x := 3 * fl + 1) (by omega) (by omega)]
  rw [wrap_i64_of (x := 3 * (2 * c.2.2.2.2.2.1 + c.2.2.2.2.2.2.2.1 + 3)) (by omega) (by omega), wrap_i64_of (x := 3 * (2 * c.2.2.2.2.2.1 + c.2.2.2.2.2.2.2.1 + 3) + c.2.2.2.2.1) (by omega) (by omega), wrap_i64_of (x := 3 * (2 * c.2.2.2.2.2.1 + c.2.2.2.2.2.2.2.1 + 3) + c.2.2.2.2.1 + 2) (by omega) (by omega)]
  exact wrap_i64_of (by omega) (by omega)
theorem mem_nthT {b : BldT} {i : Int} (h0 : 0 ≤ i) (h1 : i < b.cars.length) : nthT b.cars i ∈ b.cars := by
  rw [nthT_of _ i h0 h1]; exact List.getElem_mem _
theorem valid_cond (b : BldT) (hl : b.cars.length ≤ maxLen) : (F8 b != 0) = decide (¬ IsB b) := by
  rw [valid_eq b hl]
  by_cases h : IsB b
  · rw [(vld_zero b).2 h]; simp [h]
  · have : vld b ≠ 0 := fun h2 => h ((vld_zero b).1 h2)
    simp [h, this]
theorem rvalid_cond (b : BldT) (hl : b.cars.length ≤ maxLen) : (F9 b != 0) = decide (¬ IsB b) := by
  rw [rvalid_eq b hl, ← valid_eq b hl]; exact valid_cond b hl
theorem service_eq (b : BldT) (i : Int) (hl : b.cars.length ≤ maxLen) : F26 (b, i) = if IsB b ∧ 0 ≤ i ∧ i < b.cars.length then svc b.1 (nthT b.cars i) else 0 := by
  unfold F26
  simp only [valid_cond b hl, within_one]
  by_cases hB : IsB b
  · have h2 : 1 ≤ b.2.2.2.2.2.2.2.length ∧ b.2.2.2.2.2.2.2.length ≤ 8 := hB.cn
    rw [wrap_i64_of (x := (b.2.2.2.2.2.2.2.length : Int) - 1) (by omega) (by omega)]
    by_cases hi : 0 ≤ i ∧ i < b.cars.length
    · have h3 : (decide (0 ≤ i) && decide (i ≤ (b.2.2.2.2.2.2.2.length : Int) - 1)) = true := by
        have : i < (b.2.2.2.2.2.2.2.length : Int) := hi.2; simp only [Bool.and_eq_true, decide_eq_true_eq]; exact ⟨hi.1, by omega⟩
      rw [if_pos ⟨hB, hi⟩, h3]
      simp only [hB, not_true, decide_false, Bool.not_true, Bool.or_false, cond_false]
      exact service44 hB.fl (carB_of (hB.car _ (mem_nthT hi.1 hi.2)))
    · have h3 : (decide (0 ≤ i) && decide (i ≤ (b.2.2.2.2.2.2.2.length : Int) - 1)) = false := by
        have h4 : ¬ (0 ≤ i ∧ i < (b.2.2.2.2.2.2.2.length : Int)) := hi
        simp only [Bool.and_eq_false_iff, decide_eq_false_iff_not]; omega
      rw [if_neg (fun h => hi h.2), h3]
      simp
  · simp [hB]
theorem rcyc {c : CarT} : F27 c = F25 c := rfl
theorem rservice_eq (b : BldT) (i : Int) (hl : b.cars.length ≤ maxLen) : F24 (b, i) = if IsB b ∧ 0 ≤ i ∧ i < b.cars.length then svc b.1 (nthT b.cars i) else 0 := by
  unfold F24
  simp only [rvalid_cond b hl]
  by_cases hB : IsB b
  · by_cases hi : 0 ≤ i ∧ i < b.cars.length
    · have h3 : (decide (i < 0) || decide (i ≥ (b.2.2.2.2.2.2.2.length : Int))) = false := by
        have : i < (b.2.2.2.2.2.2.2.length : Int) := hi.2
        simp only [Bool.or_eq_false_iff, decide_eq_false_iff_not]; omega
      rw [if_pos ⟨hB, hi⟩]
      simp only [hB, not_true, decide_false, Bool.false_or, h3, cond_false]
      exact service44 hB.fl (carB_of (hB.car _ (mem_nthT hi.1 hi.2)))
    · have h3 : (decide (i < 0) || decide (i ≥ (b.2.2.2.2.2.2.2.length : Int))) = true := by
        have h4 : ¬ (0 ≤ i ∧ i < (b.2.2.2.2.2.2.2.length : Int)) := hi
        simp only [Bool.or_eq_true, decide_eq_true_eq]; omega
      rw [if_neg (fun h => hi h.2)]
      simp only [hB, not_true, decide_false, Bool.false_or, h3, cond_true]
  · simp [hB]
def mostF (fl : Int) (m : Int) (c : CarT) : Int := max (max m c.1) (svc fl c)
def most (b : BldT) : Int := b.cars.foldl (mostF b.1) 0
theorem fold_le (fl : Int) : ∀ (l : List CarT) (m : Int), m ≤ l.foldl (mostF fl) m
  | [], m => Int.le_refl m
  | c :: l, m => Int.le_trans (by unfold mostF; omega) (fold_le fl l (mostF fl m c))
theorem fold_mem (fl : Int) : ∀ (l : List CarT) (m : Int) (c : CarT), c ∈ l → c.1 ≤ l.foldl (mostF fl) m ∧ svc fl c ≤ l.foldl (mostF fl) m
  | [], m, c, h => by cases h
  | a :: l, m, c, h => by
    rcases List.mem_cons.1 h with rfl | h
    · have := fold_le fl l (mostF fl m c)
      simp only [List.foldl_cons]
      unfold mostF at this ⊢; omega
    · exact fold_mem fl l _ c h
theorem fold_max (fl M : Int) : ∀ (l : List CarT) (m : Int), m ≤ M → (∀ c ∈ l, c.1 ≤ M ∧ svc fl c ≤ M) → l.foldl (mostF fl) m ≤ M
  | [], m, h, _ => h
  | a :: l, m, h, hc => fold_max fl M l _ (by have := hc a (List.mem_cons_self); unfold mostF; omega) (fun c hm => hc c (List.mem_cons_of_mem _ hm))
theorem most_rng {b : BldT} (h : IsB b) : 0 ≤ most b ∧ most b ≤ 9709700 :=
  ⟨fold_le _ _ 0, fold_max _ _ _ _ (by omega) (fun c hc => by have h1 := carB_of (h.car c hc); have h2 := svc_rng h.fl h1; have h3 := h1.dl; omega)⟩
theorem bound_mul {b : BldT} (h : IsB b) : 0 < ((b.cars.length : Int) + 2) * (most b + 2) ∧ ((b.cars.length : Int) + 2) * (most b + 2) ≤ 97097020 := by
  have h1 := h.cn; have h2 := most_rng h
  constructor
  · exact Int.mul_pos (by omega) (by omega)
  · calc ((b.cars.length : Int) + 2) * (most b + 2) ≤ 10 * 9709702 := Int.mul_le_mul (by omega) (by omega) (by omega) (by omega)
      _ = 97097020 := by decide
def bnd (b : BldT) : Int := ((b.cars.length : Int) + 2) * (most b + 2)
theorem bnd_more {b : BldT} (h : IsB b) : most b < bnd b := by
  have h1 := h.cn; have h2 := most_rng h
  unfold bnd
  have : 1 * (most b + 2) ≤ ((b.cars.length : Int) + 2) * (most b + 2) := Int.mul_le_mul_of_nonneg_right (by omega) (by omega)
  omega
theorem bound_eq (b : BldT) (hl : b.cars.length ≤ maxLen) : F12 b = if IsB b then bnd b else 0 := by
  unfold F12
  simp only [valid_cond b hl]
  by_cases hB : IsB b
  · rw [if_pos hB]
    simp only [hB, not_true, decide_false, cond_false]
    have h1 : G12_5 (b.2.2.2.2.2.2.2, ((b.2.2.2.2.2.2.2).length : Int), b) ((0 : Int), (0 : Int)) = (most b, (b.cars.length : Int)) := by
      unfold G12_5
      refine (end_fold b.cars (mostF b.1) hl (fun m i hi => ?_) (fun m => ?_) 0 (by simp [mu12_5])).1
      · refine ⟨(b.cars, (b.cars.length : Int), b), ?_⟩
        have h1 : decide ((i : Int) < (b.cars.length : Int)) = true := by simp; omega
        simp only [st12_5]
        rw [show decide ((i : Int) < (b.2.2.2.2.2.2.2.length : Int)) = true from h1]
        have h2 : nthT b.2.2.2.2.2.2.2 (i : Int) = b.cars[i] := nthT_nat b.cars i hi
        rw [h2, service44 hB.fl (carB_of (hB.car _ (List.getElem_mem _)))]
        rfl
      · refine ⟨(b.cars, (b.cars.length : Int), b), ?_⟩
        simp only [st12_5]
        rw [show decide ((b.cars.length : Int) < (b.2.2.2.2.2.2.2.length : Int)) = false from by simp]
        rfl
    rw [h1]
    have h2 := bound_mul hB; have h3 := most_rng hB; have h4 : 1 ≤ b.2.2.2.2.2.2.2.length ∧ b.2.2.2.2.2.2.2.length ≤ 8 := hB.cn
    rw [wrap_i64_of (x := (b.2.2.2.2.2.2.2.length : Int) + 2) (by omega) (by omega), wrap_i64_of (x := (most b, (b.cars.length : Int)).1 + 2) (by simp only; omega) (by simp only; omega)]
    exact wrap_i64_of (by show _ ≤ ((b.cars.length : Int) + 2) * (most b + 2); omega) (by show ((b.cars.length : Int) + 2) * (most b + 2) ≤ _; omega)
  · simp [hB]
theorem rbound_eq (b : BldT) (hl : b.cars.length ≤ maxLen) : F13 b = if IsB b then bnd b else 0 := by
  unfold F13
  simp only [rvalid_cond b hl]
  by_cases hB : IsB b
  · rw [if_pos hB]
    simp only [hB, not_true, decide_false, cond_false]
    have h1 : G13_5 b ((0 : Int), (0 : Int)) = (most b, (b.cars.length : Int)) := by
      unfold G13_5
      refine (end_fold b.cars (mostF b.1) hl (fun m i hi => ?_) (fun m => ?_) 0 (by simp [mu13_5])).1
      · refine ⟨b, ?_⟩
        have h1 : decide ((i : Int) < (b.cars.length : Int)) = true := by simp; omega
        simp only [st13_5]
        rw [show decide ((i : Int) < (b.2.2.2.2.2.2.2.length : Int)) = true from h1]
        have h2 : nthT b.2.2.2.2.2.2.2 (i : Int) = b.cars[i] := nthT_nat b.cars i hi
        have h3 : nthT b.cars (i : Int) = b.cars[i] := nthT_nat b.cars i hi
        rw [rservice_eq b i hl, if_pos ⟨hB, by omega, by omega⟩, h2]
        have h4 : max m (max (b.cars[i]).1 (svc b.1 b.cars[i])) = mostF b.1 m b.cars[i] := by unfold mostF; omega
        rw [h4]
        rfl
      · refine ⟨b, ?_⟩
        simp only [st13_5]
        rw [show decide ((b.cars.length : Int) < (b.2.2.2.2.2.2.2.length : Int)) = false from by simp]
        rfl
    rw [h1]
    have h2 := bound_mul hB; have h3 := most_rng hB; have h4 : 1 ≤ b.2.2.2.2.2.2.2.length ∧ b.2.2.2.2.2.2.2.length ≤ 8 := hB.cn
    rw [wrap_i64_of (x := (b.2.2.2.2.2.2.2.length : Int) + 2) (by omega) (by omega), wrap_i64_of (x := (most b, (b.cars.length : Int)).1 + 2) (by simp only; omega) (by simp only; omega)]
    exact wrap_i64_of (by show _ ≤ ((b.cars.length : Int) + 2) * (most b + 2); omega) (by show ((b.cars.length : Int) + 2) * (most b + 2) ≤ _; omega)
  · simp [hB]
def callOk (fl f d : Int) : Bool := ((d == 1) && (decide (0 ≤ f) && decide (f ≤ fl - 2))) || ((d == 2) && (decide (1 ≤ f) && decide (f ≤ fl - 1)))
theorem riscall_eq (b : BldT) (f d : Int) (hl : b.cars.length ≤ maxLen) : F22 (b, f, d) = (decide (IsB b) && callOk b.1 f d) := by
  unfold F22
  simp only [rvalid_cond b hl]
  by_cases hB : IsB b
  · have h1 := hB.fl
    simp only [hB, decide_true, not_true, decide_false, Bool.true_and, cond_false]
    unfold callOk
    simp only [in_eq]
    rw [wrap_i64_of (x := b.1 - 2) (by omega) (by omega), wrap_i64_of (x := b.1 - 1) (by omega) (by omega)]
  · simp [hB]
def hallT (fl : Int) : Int × Int :=
  ((IntKind.u32.wrap ((IntKind.u32.wrap ((1 : Int) * 2 ^ (min ((IntKind.i64.wrap (fl - (1 : Int)))).toNat IntKind.u32.bits))) - (1 : Int))), (IntKind.u32.wrap ((IntKind.u32.wrap ((IntKind.u32.wrap ((1 : Int) * 2 ^ (min ((IntKind.i64.wrap (fl - (1 : Int)))).toNat IntKind.u32.bits))) - (1 : Int))) * 2 ^ (min ((1 : Int)).toNat IntKind.u32.bits))))
theorem hall_eq (b : BldT) (hl : b.cars.length ≤ maxLen) : F10 b = if IsB b then hallT b.1 else (0, 0) := by
  unfold F10
  simp only [valid_cond b hl]
  by_cases hB : IsB b <;> simp [hB, hallT]
def hstep (fl : Int) (x : Int × Int × Int) : BOut Unit (Int × Int × Int) (Int × Int) :=
  bif (decide (x.1 < (32 : Int))) then
    (bif callOk fl x.1 1 then
      (bif callOk fl x.1 2 then
        BOut.next () ((IntKind.i64.wrap (x.1 + (1 : Int))), (IntKind.u32.wrap ((BitVec.ofInt IntKind.u32.bits x.2.1 ||| BitVec.ofInt IntKind.u32.bits (IntKind.u32.wrap ((1 : Int) * 2 ^ (min ((IntKind.u64.wrap x.1)).toNat IntKind.u32.bits)))).toNat : Int)), (IntKind.u32.wrap ((BitVec.ofInt IntKind.u32.bits x.2.2 ||| BitVec.ofInt IntKind.u32.bits (IntKind.u32.wrap ((1 : Int) * 2 ^ (min ((IntKind.u64.wrap x.1)).toNat IntKind.u32.bits)))).toNat : Int)))
      else
        BOut.next () ((IntKind.i64.wrap (x.1 + (1 : Int))), (IntKind.u32.wrap ((BitVec.ofInt IntKind.u32.bits x.2.1 ||| BitVec.ofInt IntKind.u32.bits (IntKind.u32.wrap ((1 : Int) * 2 ^ (min ((IntKind.u64.wrap x.1)).toNat IntKind.u32.bits)))).toNat : Int)), x.2.2))
    else
      bif callOk fl x.1 2 then
        BOut.next () ((IntKind.i64.wrap (x.1 + (1 : Int))), x.2.1, (IntKind.u32.wrap ((BitVec.ofInt IntKind.u32.bits x.2.2 ||| BitVec.ofInt IntKind.u32.bits (IntKind.u32.wrap ((1 : Int) * 2 ^ (min ((IntKind.u64.wrap x.1)).toNat IntKind.u32.bits)))).toNat : Int)))
      else
        BOut.next () ((IntKind.i64.wrap (x.1 + (1 : Int))), x.2))
  else
    BOut.brk () x
theorem hall_all : (List.range 31).all (fun n => (endOf (fun (_ : Unit) => hstep (n + 2)) () 33 ((0 : Int), (0 : Int), (0 : Int))).2 == hallT (n + 2)) = true := by kernel_rfl
theorem hall_one {fl : Int} (h : 2 ≤ fl ∧ fl ≤ 32) : (endOf (fun (_ : Unit) => hstep fl) () 33 ((0 : Int), (0 : Int), (0 : Int))).2 = hallT fl := by
  have := List.all_eq_true.1 hall_all (fl - 2).toNat (by simp; omega)
  simp only [beq_iff_eq] at this
  rwa [show (((fl - 2).toNat : Int) + 2) = fl by omega] at this
theorem rhall_eq (b : BldT) (hl : b.cars.length ≤ maxLen) : F11 b = if IsB b then hallT b.1 else (0, 0) := by
  unfold F11 G11_3
  by_cases hB : IsB b
  · rw [if_pos hB, ← hall_one hB.fl]
    have h1 : Nat.succ (mu11_3 b ((0 : Int), (0 : Int), (0 : Int))) = 33 := by simp [mu11_3]
    rw [h1]
    refine congrArg Prod.snd (loop_sim (fun x y => x = y) (fun x y h => ?_) 33 _ _ rfl).1
    subst h
    simp only [st11_3, hstep, riscall_eq _ _ _ hl, hB, decide_true, Bool.true_and]
    cases decide (x.1 < 32) <;> cases callOk b.1 x.1 1 <;> cases callOk b.1 x.1 2 <;> rfl
  · rw [if_neg hB]
    have := loop_spec (step := st11_3) (k := b) (fun x => 0 ≤ x.1 ∧ x.2 = (0, 0)) (mu11_3 b) (fun o y => y.2 = (0, 0)) (fun x hx => ?_) _ (0, 0, 0) ⟨by simp, rfl⟩ (Nat.lt_succ_self _)
    · exact this
    · simp only [st11_3, riscall_eq _ _ _ hl, hB, decide_false, Bool.false_and, cond_false]
      by_cases h1 : x.1 < 32
      · simp only [h1, decide_true, cond_true]
        rw [wrap_i64_of (by omega) (by omega)]
        refine ⟨⟨by omega, hx.2⟩, ?_⟩
        simp only [mu11_3]; omega
      · simp only [h1, decide_false, cond_false]; exact hx.2
end Go.Proofs.Ytghlpolodjlgjaa.Sp
