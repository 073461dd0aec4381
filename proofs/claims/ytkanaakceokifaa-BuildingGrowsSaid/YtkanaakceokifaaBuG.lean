/- Hall calls of buildings (own work). -/
import Derived.Test.YtkanaakceokifaaBuF
namespace Go.Proofs.Ytkanaakceokifaa.Sp
open Go Sy
set_option linter.unusedVariables false
set_option linter.unusedSimpArgs false
def callOk (fl f d : Int) : Bool := ((d == 1) && (decide (0 ≤ f) && decide (f ≤ fl - 2))) || ((d == 2) && (decide (1 ≤ f) && decide (f ≤ fl - 1)))
theorem iscall_eq (b : BldT) (f d : Int) (hl : b.cars.length ≤ maxLen) : F28 (b, f, d) = (decide (IsB b) && callOk b.1 f d) := by
  unfold F28
  have h0 : (F12 b == 0) = decide (IsB b) := by
    have := valid_cond b hl
    cases h : (F12 b == 0) <;> simp [bne, h] at this <;> simp [this]
  simp only [h0]
  by_cases hB : IsB b
  · have h1 := hB.fl
    simp only [hB, decide_true, Bool.true_and]
    unfold F53 callOk
    simp only [within_one]
    rw [wrap_i64_of (x := b.1 - 2) (by omega) (by omega), wrap_i64_of (x := b.1 - 1) (by omega) (by omega)]
  · simp [hB]
theorem riscall_eq (b : BldT) (f d : Int) (hl : b.cars.length ≤ maxLen) : F29 (b, f, d) = (decide (IsB b) && callOk b.1 f d) := by
  unfold F29
  simp only [rvalid_cond b hl]
  by_cases hB : IsB b
  · have h1 := hB.fl
    simp only [hB, decide_true, not_true, decide_false, Bool.true_and, cond_false]
    unfold callOk
    simp only [in_eq]
    rw [wrap_i64_of (x := b.1 - 2) (by omega) (by omega), wrap_i64_of (x := b.1 - 1) (by omega) (by omega)]
  · simp [hB]
/-- The hall calls of so many floors. -/
def hallT (fl : Int) : Int × Int :=
  ((IntKind.u32.wrap ((IntKind.u32.wrap ((1 : Int) * 2 ^ (min ((IntKind.i64.wrap (fl - (1 : Int)))).toNat IntKind.u32.bits))) - (1 : Int))), (IntKind.u32.wrap ((IntKind.u32.wrap ((IntKind.u32.wrap ((1 : Int) * 2 ^ (min ((IntKind.i64.wrap (fl - (1 : Int)))).toNat IntKind.u32.bits))) - (1 : Int))) * 2 ^ (min ((1 : Int)).toNat IntKind.u32.bits))))
theorem hall_eq (b : BldT) (hl : b.cars.length ≤ maxLen) : F27 b = if IsB b then hallT b.1 else (0, 0) := by
  unfold F27
  simp only [valid_cond b hl]
  by_cases hB : IsB b <;> simp [hB, hallT]
def hstep (fl : Int) (x : Int × Int × Int) : BOut Unit (Int × Int × Int) (Int × Int) :=
  bif (decide (x.1 < (32 : Int))) then
    (bif callOk fl x.1 1 then
      (bif callOk fl x.1 2 then
        BOut.next () ((IntKind.i64.wrap (x.1 + (1 : Int))), (IntKind.u32.wrap ((BitVec.ofInt IntKind.u32.bits x.2.1 ||| BitVec.ofInt IntKind.u32.bits (IntKind.u32.wrap ((1 : Int) * 2 ^ (min ((IntKind.u64.wrap x.1)).toNat IntKind.u32.bits)))).toNat : Int)), (IntKind.u32.wrap ((BitVec.ofInt IntKind.u32.bits x.2.2 ||| BitVec.ofInt IntKind.u32.bits (IntKind.u32.wrap ((1 : Int) * 2 ^ (min ((IntKind.u64.wrap x.1)).toNat IntKind.u32.bits)))).toNat : Int)))
      else
        BOut.next () ((IntKind.i64.wrap (x.1 + (1 : Int))), (IntKind.u32.wrap ((BitVec.ofInt IntKind.u32.bits x.2.1 ||| BitVec.ofInt IntKind.u32.bits (IntKind.u32.wrap ((1 : Int) * 2 ^ (min ((IntKind.u64.wrap x.1)).toNat IntKind.u32.bits)))).toNat : Int)), x.2.2))
    else
      bif callOk fl x.1 2 then
        BOut.next () ((IntKind.i64.wrap (x.1 + (1 : Int))), x.2.1, (IntKind.u32.wrap ((BitVec.ofInt IntKind.u32.bits x.2.2 ||| BitVec.ofInt IntKind.u32.bits (IntKind.u32.wrap ((1 : Int) * 2 ^ (min ((IntKind.u64.wrap x.1)).toNat IntKind.u32.bits)))).toNat : Int)))
      else
        BOut.next () ((IntKind.i64.wrap (x.1 + (1 : Int))), x.2))
  else
    BOut.brk () x
theorem hall_all : (List.range 31).all (fun n => (endOf (fun (_ : Unit) => hstep (n + 2)) () 33 ((0 : Int), (0 : Int), (0 : Int))).2 == hallT (n + 2)) = true := by kernel_rfl
theorem hall_one {fl : Int} (h : 2 ≤ fl ∧ fl ≤ 32) : (endOf (fun (_ : Unit) => hstep fl) () 33 ((0 : Int), (0 : Int), (0 : Int))).2 = hallT fl := by
  have := List.all_eq_true.1 hall_all (fl - 2).toNat (by simp; omega)
  simp only [beq_iff_eq] at this
  rwa [show (((fl - 2).toNat : Int) + 2) = fl by omega] at this
theorem rhall_eq (b : BldT) (hl : b.cars.length ≤ maxLen) : F30 b = if IsB b then hallT b.1 else (0, 0) := by
  unfold F30 G30_3
  by_cases hB : IsB b
  · rw [if_pos hB, ← hall_one hB.fl]
    have h1 : Nat.succ (mu30_3 b ((0 : Int), (0 : Int), (0 : Int))) = 33 := by simp [mu30_3]
    rw [h1]
    refine congrArg Prod.snd (loop_sim (fun x y => x = y) (fun x y h => ?_) 33 _ _ rfl).1
    subst h
    simp only [st30_3, hstep, riscall_eq _ _ _ hl, hB, decide_true, Bool.true_and]
    cases decide (x.1 < 32) <;> cases callOk b.1 x.1 1 <;> cases callOk b.1 x.1 2 <;> rfl
  · rw [if_neg hB]
    have := loop_spec (step := st30_3) (k := b) (fun x => 0 ≤ x.1 ∧ x.2 = (0, 0)) (mu30_3 b) (fun o y => y.2 = (0, 0)) (fun x hx => ?_) _ (0, 0, 0) ⟨by simp, rfl⟩ (Nat.lt_succ_self _)
    · exact this
    · simp only [st30_3, riscall_eq _ _ _ hl, hB, decide_false, Bool.false_and, cond_false]
      by_cases h1 : x.1 < 32
      · simp only [h1, decide_true, cond_true]
        rw [wrap_i64_of (by omega) (by omega)]
        refine ⟨⟨by omega, hx.2⟩, ?_⟩
        simp only [mu30_3]; omega
      · simp only [h1, decide_false, cond_false]; exact hx.2
/-- Every call has its bit. -/
def bitOk (fl f d : Int) : Bool :=
  !((((callOk fl f d) && (d == (1 : Int))) && ((IntKind.u32.wrap ((BitVec.ofInt IntKind.u32.bits (Int.fdiv (hallT fl).1 (2 ^ (min ((IntKind.u64.wrap f)).toNat IntKind.u32.bits))) &&& BitVec.ofInt IntKind.u32.bits (1 : Int)).toNat : Int)) == (0 : Int))) || (((callOk fl f d) && (d == (2 : Int))) && ((IntKind.u32.wrap ((BitVec.ofInt IntKind.u32.bits (Int.fdiv (hallT fl).2 (2 ^ (min ((IntKind.u64.wrap f)).toNat IntKind.u32.bits))) &&& BitVec.ofInt IntKind.u32.bits (1 : Int)).toNat : Int)) == (0 : Int))))
theorem bit_all : (List.range 31).all (fun n => (List.range 34).all (fun f => (List.range 6).all (fun d => bitOk ((n : Int) + 2) ((f : Int) - 1) ((d : Int) - 1)))) = true := by kernel_rfl
theorem bit_one {fl f d : Int} (h : 2 ≤ fl ∧ fl ≤ 32) (hf : -1 ≤ f ∧ f < 33) (hd : -1 ≤ d ∧ d < 5) : bitOk fl f d = true := by
  have := List.all_eq_true.1 (List.all_eq_true.1 (List.all_eq_true.1 bit_all (fl - 2).toNat (by simp; omega)) (f + 1).toNat (by simp; omega)) (d + 1).toNat (by simp; omega)
  rwa [show (((fl - 2).toNat : Int) + 2) = fl by omega, show (((f + 1).toNat : Int) - 1) = f by omega, show (((d + 1).toNat : Int) - 1) = d by omega] at this
theorem calls_inner {b : BldT} (hB : IsB b) (hl : b.cars.length ≤ maxLen) {f : Int} (hf : -1 ≤ f ∧ f < 33) : R9_9 (f, b, hallT b.1) (-1) = none := by
  unfold R9_9
  refine ret_none (fun d => -1 ≤ d) (fun d hd => ?_) _ _ (by omega)
  simp only [st9_9, iscall_eq _ _ _ hl, riscall_eq _ _ _ hl, hB, decide_true, Bool.true_and, bne_self_eq_false, Bool.false_or]
  by_cases h1 : d < 5
  · have h2 := bit_one hB.fl hf ⟨hd, h1⟩
    simp only [bitOk, Bool.not_eq_true'] at h2
    simp only [h1, decide_true, cond_true, h2, cond_false]
    rw [wrap_i64_of (by omega) (by omega)]; omega
  · simp only [h1, decide_false, cond_false]
theorem calls_outer {b : BldT} (hB : IsB b) (hl : b.cars.length ≤ maxLen) : R9_6 (b, hallT b.1) (-1) = none := by
  unfold R9_6
  refine ret_none (fun d => -1 ≤ d) (fun d hd => ?_) _ _ (by omega)
  simp only [st9_6]
  by_cases h1 : d < 33
  · simp only [h1, decide_true, cond_true, calls_inner hB hl ⟨hd, h1⟩, optR_none]
    rw [wrap_i64_of (by omega) (by omega)]; omega
  · simp only [h1, decide_false, cond_false]
theorem law_calls (x : BldT × Int × Int) (h : InR (Ty.pair ty25 (Ty.pair ty3 ty3)) x) : F9 x = true := by
  obtain ⟨b, floor, dir⟩ := x
  have hl : b.cars.length ≤ maxLen := h.1.2.2.2.2.2.2.2.1
  unfold F9
  cases hs : F15 b with
  | false => simp only [Bool.not_false, cond_true]; exact sane_true
  | true =>
    simp only [Bool.not_true, cond_false]
    have h1 : 0 ≤ Int.tmod (IntKind.u64.wrap floor) 31 ∧ Int.tmod (IntKind.u64.wrap floor) 31 ≤ 30 := by
      rw [tmod_ite, IntKind.wrap_u64]; omega
    generalize Int.tmod (IntKind.u64.wrap floor) 31 = r at h1
    rw [wrap_i64_of (x := r) (by omega) (by omega), wrap_i64_of (x := 2 + r) (by omega) (by omega)]
    have h2 := sample_eq (2 + r) 1 (by omega) (by omega)
    simp only [Int.ofNat_one] at h2
    have hB := sample_isB (2 + r) 1 (by omega) (by omega)
    have hl2 : (sampleB (2 + r) 1).cars.length ≤ maxLen := by rw [sample_len]; simp [maxLen]
    have h3 : F22 (2 + r, (1 : Int)) = sampleB (2 + r) 1 := h2
    rw [h3, hall_eq _ hl2, if_pos hB]
    have h4 : (sampleB (2 + r) 1).1 = 2 + r := rfl
    rw [calls_outer hB hl2, optR_none]
    simp only [iscall_eq _ _ _ hl, riscall_eq _ _ _ hl, iscall_eq _ _ _ hl2, riscall_eq _ _ _ hl2, hall_eq _ hl, rhall_eq _ hl, sane_true]
    simp
end Go.Proofs.Ytkanaakceokifaa.Sp
