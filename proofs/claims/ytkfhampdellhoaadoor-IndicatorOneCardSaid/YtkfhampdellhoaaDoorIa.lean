/- Layer 5: plain laws (own work). -/
import Derived.Test.YtkfhampdellhoaaDoorI4
import Derived.Test.YtkfhampdellhoaaDoorBv
import Derived.Test.YtkfhampdellhoaaDoorTr
namespace Go.Proofs.YtkfhampdellhoaaDoor.Sp
open Go Sy
set_option linter.unusedVariables false
set_option linter.unusedSimpArgs false
set_option maxRecDepth 10000

theorem okf_iff (n : Int) : F18 n = true ↔ 2 ≤ n ∧ n ≤ 32 := by unfold F18; simp
theorem ok_eq (n : Int) : F18 n = F20 n := rfl
theorem wrap_u64_nat {i : Int} (h0 : 0 ≤ i) (h1 : i < 1000000) : IntKind.u64.wrap i = i := wrap_u64_of h0 (by omega)

theorem ref_loop (n x : Int) (h2 : 2 ≤ n) (h : n ≤ 32) : R9_4 (n, x) 0 = (List.range n.toNat).findSome? (fun (i : Nat) => if x = shl32 1 (i : Int) then some (i : Int) else none) := by
  unfold R9_4
  have hs : ∀ i : Nat, IntKind.u64.wrap (i : Int) = (i : Int) ∨ 1000000 ≤ i := fun i => by
    by_cases hi : i < 1000000
    · exact .inl (wrap_u64_nat (by omega) (by omega))
    · exact .inr (by omega)
  refine ret_row (k := (n, x)) (k' := (n, x)) (y := ((n.toNat : Nat) : Int)) (fun i : Nat => (i : Int)) (fun i : Nat => if x = shl32 1 (i : Int) then some (i : Int) else none) n.toNat (fun i hi => ?_) ?_ (by simp only [mu9_4]; omega)
  · have hd : decide ((i : Int) < n) = true := by simp; omega
    have hw : IntKind.u64.wrap (i : Int) = (i : Int) := wrap_u64_nat (by omega) (by omega)
    by_cases hx : x = shl32 1 (i : Int)
    · simp only [if_pos hx]
      unfold st9_4
      simp only [hd, hw, cond_true]
      rw [show (x == IntKind.u32.wrap (1 * 2 ^ (min ((i : Int)).toNat IntKind.u32.bits))) = true from by rw [beq_iff_eq]; exact hx]
      rfl
    · simp only [if_neg hx]
      refine ⟨(n, x), ?_⟩
      unfold st9_4
      simp only [hd, hw, cond_true]
      rw [show (x == IntKind.u32.wrap (1 * 2 ^ (min ((i : Int)).toNat IntKind.u32.bits))) = false from by rw [beq_eq_false_iff_ne]; exact hx]
      simp only [cond_false]
      rw [wrap_i64_of (by omega) (by omega)]
      norm_cast
  · unfold st9_4
    have hd : decide (((n.toNat : Nat) : Int) < n) = false := by simp; omega
    simp only [hd, cond_false]

/-- What a position is. -/
theorem floor_cases (n : Int) {x : Int} (hx : W x) : F8 (n, x) = F9 (n, x) ∧
    (F8 (n, x) = -1 ∨ ∃ k : Nat, k < 32 ∧ (k : Int) < n ∧ 2 ≤ n ∧ n ≤ 32 ∧ x = shl32 1 (k : Int) ∧ F8 (n, x) = (k : Int)) := by
  unfold F8 F9
  simp only
  rw [← ok_eq n, pop_spec hx]
  cases hok : F18 n with
  | false =>
    rw [Bool.false_and, Bool.false_and, cond_false, Bool.not_false, cond_true]
    exact ⟨rfl, .inl rfl⟩
  | true =>
    obtain ⟨h2, h32⟩ := (okf_iff n).1 hok
    simp only [Bool.true_and, Bool.not_true, cond_false]
    rw [ref_loop n x h2 h32]
    cases hf : (List.range n.toNat).findSome? (fun (i : Nat) => if x = shl32 1 (i : Int) then some (i : Int) else none) with
    | none =>
      rw [List.findSome?_eq_none_iff] at hf
      have hc : (((cnt x : Nat) : Int) == 1 && decide (F17 x < n)) = false := by
        cases hb : (((cnt x : Nat) : Int) == 1 && decide (F17 x < n)) with
        | false => rfl
        | true =>
          simp only [Bool.and_eq_true, beq_iff_eq, decide_eq_true_eq] at hb
          obtain ⟨k, hk, h3, h4⟩ := one_bit hx (by omega)
          have := hf k (List.mem_range.2 (by omega))
          rw [if_pos h3] at this
          cases this
      rw [hc]
      rw [cond_false, optR_none]
      exact ⟨rfl, .inl rfl⟩
    | some r =>
      obtain ⟨i, hi, hr⟩ := List.exists_of_findSome?_eq_some hf
      have hi := List.mem_range.1 hi
      by_cases hxi : x = shl32 1 (i : Int)
      · rw [if_pos hxi] at hr
        cases hr
        have ht : F17 x = (i : Int) := by rw [hxi]; exact tz_pow i (by omega)
        have hc : (((cnt x : Nat) : Int) == 1 && decide (F17 x < n)) = true := by
          rw [ht]
          simp only [Bool.and_eq_true, beq_iff_eq, decide_eq_true_eq]
          refine ⟨?_, by omega⟩
          rw [hxi, cnt_pow i (by omega)]; rfl
        rw [hc]
        rw [cond_true, optR_some]
        exact ⟨ht, .inr ⟨i, by omega, by omega, h2, h32, hxi, ht⟩⟩
      · rw [if_neg hxi] at hr; cases hr
theorem floor_eq (n : Int) {x : Int} (hx : W x) : F8 (n, x) = F9 (n, x) := (floor_cases n hx).1

theorem pair_tt : F21 (true, true, 0, 1, 2, 3) = 3 := by kernel_rfl
theorem pair_tf : F21 (true, false, 0, 1, 2, 3) = 1 := by kernel_rfl
theorem pair_ft : F21 (false, true, 0, 1, 2, 3) = 2 := by kernel_rfl
theorem pair_ff : F21 (false, false, 0, 1, 2, 3) = 0 := by kernel_rfl
def dirN (a b : Bool) : Int := if a then (if b then 3 else 1) else (if b then 2 else 0)
theorem pair_eq (a b : Bool) : F21 (a, b, 0, 1, 2, 3) = dirN a b := by
  cases a <;> cases b
  · exact pair_ff
  · exact pair_ft
  · exact pair_tf
  · exact pair_tt
theorem dirN_bd (a b : Bool) : 0 ≤ dirN a b ∧ dirN a b ≤ 3 := by cases a <;> cases b <;> decide
theorem decode_val (n : Int) (c : Int × Bool × Bool × Bool × Bool) : F11 (n, c) = (F8 (n, c.1), dirN c.2.1 c.2.2.1, dirN c.2.2.2.1 c.2.2.2.2) := by
  unfold F11
  simp only [pair_eq]
theorem decode_eq (n : Int) (c : Int × Bool × Bool × Bool × Bool) (hc : W c.1) : F11 (n, c) = F12 (n, c) := by
  rw [decode_val, floor_eq n hc]
  unfold F12
  obtain ⟨x, u, d, o, cl⟩ := c
  cases u <;> cases d <;> cases o <;> cases cl <;> rfl
theorem floor_bd (n : Int) {x : Int} (hx : W x) (h2 : 2 ≤ n) : -1 ≤ F8 (n, x) ∧ F8 (n, x) < n := by
  rcases (floor_cases n hx).2 with h | ⟨k, h1, h3, _, _, _, h4⟩
  · rw [h]; omega
  · rw [h4]; omega
theorem isobs_iff (n a b c : Int) : F13 (n, a, b, c) = true ↔ (2 ≤ n ∧ n ≤ 32) ∧ -1 ≤ a ∧ a < n ∧ 0 ≤ b ∧ b ≤ 3 ∧ 0 ≤ c ∧ c ≤ 3 := by
  unfold F13
  simp only [Bool.and_eq_true, okf_iff, decide_eq_true_eq]
  omega
theorem obs_ok (n : Int) (c : Int × Bool × Bool × Bool × Bool) (hc : W c.1) (h2 : 2 ≤ n) (h32 : n ≤ 32) : F13 (n, F11 (n, c)) = true := by
  rw [decode_val, isobs_iff]
  have h1 := floor_bd n hc h2
  have h3 := dirN_bd c.2.1 c.2.2.1
  have h4 := dirN_bd c.2.2.2.1 c.2.2.2.2
  exact ⟨⟨h2, h32⟩, h1.1, h1.2, h3.1, h3.2, h4.1, h4.2⟩
theorem isobs_eq (x : Int × Int × Int × Int) : F13 x = F16 x := rfl
theorem shows_eq (x : Int × Int × Int × Int) : F14 x = F15 x := by
  obtain ⟨n, a, b, c⟩ := x
  unfold F14 F15
  rw [← isobs_eq]
  cases hc : (!F13 (n, a, b, c) || (c != 1)) || decide (a < 0) with
  | true => rfl
  | false =>
    simp only [Bool.or_eq_false_iff, Bool.not_eq_false', decide_eq_false_iff_not] at hc
    have h1 := (isobs_iff n a b c).1 hc.1.1
    rw [wrap_u64_nat (i := a) (by omega) (by omega)]
theorem sane_true : F10 () = true := by kernel_rfl

theorem W_of {x : Int} (h : (Lit.int .u32 x).wf = true) : W x := by
  simp only [Lit.wf, Bool.and_eq_true, decide_eq_true_eq] at h
  have h1 : (0 : Int) ≤ x := h.1
  have h2 : x ≤ (4294967295 : Int) := h.2
  unfold W; omega
theorem law_floors (x : ct3.p.den) (h : InR ct3.p x) : ct3.F x = true := by
  obtain ⟨n, b, k⟩ := x
  obtain ⟨hn, hb, hk⟩ := h
  have hb := W_of hb
  show F3 (n, b, k) = true
  unfold F3
  simp only
  generalize hone : IntKind.u32.wrap ((1 : Int) * 2 ^ (min ((IntKind.u64.wrap (Int.tmod k (32 : Int)))).toNat IntKind.u32.bits)) = one
  have ho : W one := by rw [← hone]; exact W_wrap _
  have hR : R3_3 (b, one) (-1) = none := ret_none (fun _ => True) (fun x _ => by
    unfold st3_3
    have h3 := floor_eq x (W_or one b)
    simp only [floor_eq x hb, floor_eq x ho]
    rw [show F8 (x, IntKind.u32.wrap ((BitVec.ofInt IntKind.u32.bits one ||| BitVec.ofInt IntKind.u32.bits b).toNat : Int)) = _ from h3]
    simp only [bne_self_eq_false, Bool.or_false, cond_false]
    cases decide (x < 35) <;> simp) _ _ trivial
  rw [hR, floor_eq n hb, sane_true]
  simp [optR]

theorem law_decodes (x : ct4.p.den) (h : InR ct4.p x) : ct4.F x = true := by
  obtain ⟨n, c, k⟩ := x
  obtain ⟨hn, hb, hk⟩ := h
  have hb := W_of hb.1
  show F4 (n, c, k) = true
  unfold F4
  simp only
  generalize hone : IntKind.u32.wrap ((1 : Int) * 2 ^ (min ((IntKind.u64.wrap (Int.tmod k (32 : Int)))).toNat IntKind.u32.bits)) = one
  have ho : W one := by rw [← hone]; exact W_wrap _
  have hin : ∀ f : Int, 2 ≤ f → f ≤ 32 → R4_7 (f, [c, (one, c.2)], (([c, (one, c.2)]).length : Int)) 0 = none := fun f h2 h32 => ret_none (fun i => 0 ≤ i) (fun i hi => by
    unfold st4_7
    simp only
    cases hd : decide (i < (([c, (one, c.2)]).length : Int)) with
    | false => simp
    | true =>
      simp only [decide_eq_true_eq] at hd
      rw [nthT_of _ _ hi hd]
      have hw : ∀ y ∈ [c, (one, c.2)], W y.1 := by
        intro y hy
        simp only [List.mem_cons, List.not_mem_nil, or_false] at hy
        rcases hy with rfl | rfl
        · exact hb
        · exact ho
      have hwi := hw _ (List.getElem_mem (l := [c, (one, c.2)]) (n := i.toNat) (by simp at hd ⊢; omega))
      rw [← decode_eq f _ hwi, obs_ok f _ hwi h2 h32]
      have hl : (([c, (one, c.2)]).length : Int) = 2 := rfl
      rw [hl] at hd
      have hwr : IntKind.i64.wrap (i + 1) = i + 1 := wrap_i64_of (by omega) (by omega)
      simp only [beq_self_eq_true, Bool.and_self, Bool.not_true, Bool.or_self, cond_false, cond_true, hwr]
      omega) _ _ (Int.le_refl 0)
  have hR : R4_4 (c, one, c.2) 2 = none := ret_none (fun f => 2 ≤ f) (fun f hf => by
    unfold st4_4
    simp only
    cases hd : decide (f ≤ 32) with
    | false => simp
    | true =>
      simp only [decide_eq_true_eq] at hd
      rw [hin f hf hd]
      have hwr : IntKind.i64.wrap (f + 1) = f + 1 := wrap_i64_of (by omega) (by omega)
      simp only [optR, cond_true, hwr]
      omega) _ _ (Int.le_refl 2)
  rw [hR, decode_eq n c hb, sane_true]
  simp [optR]

theorem law_shows (x : ct5.p.den) (h : InR ct5.p x) : ct5.F x = true := by
  obtain ⟨n, a, b, c⟩ := x
  show F5 (n, a, b, c) = true
  have h9 : ∀ k i, R5_9 k i = none := fun k i => ret_none (fun _ => True) (fun x _ => by
    unfold st5_9
    simp only [shows_eq, isobs_eq, beq_self_eq_true, bne_self_eq_false, Bool.and_self, Bool.not_true, Bool.or_self, cond_false]
    cases decide (x < 5) <;> simp) _ _ trivial
  have h6 : ∀ k i, R5_6 k i = none := fun k i => ret_none (fun _ => True) (fun x _ => by
    unfold st5_6
    simp only [h9, optR]
    cases decide (x < 5) <;> simp) _ _ trivial
  have h3 : ∀ k i, R5_3 k i = none := fun k i => ret_none (fun _ => True) (fun x _ => by
    unfold st5_3
    simp only [h6, optR]
    cases decide (x ≤ k) <;> simp) _ _ trivial
  unfold F5
  rw [h3, shows_eq, isobs_eq, sane_true]
  simp [optR]
end Go.Proofs.YtkfhampdellhoaaDoor.Sp
