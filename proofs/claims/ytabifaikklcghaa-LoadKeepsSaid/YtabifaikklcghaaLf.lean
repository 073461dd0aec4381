/- Load: the program's steps, and the laws of runs (own work). -/
import Derived.Test.YtabifaikklcghaaK2
import Derived.Test.YtabifaikklcghaaTr
namespace Go.Proofs.Ytabifaikklcghaa.Sp
open Go Sy Ieee
set_option linter.unusedVariables false
set_option linter.unusedSimpArgs false
set_option maxRecDepth 10000

theorem class_le (b : BldT) (x : Nat) : 0 ≤ F46 (b, x) ∧ F46 (b, x) ≤ 4 := by
  unfold F46
  simp only [cond_eq_ite]
  repeat' split
  all_goals omega
theorem class_zero (b : BldT) (x : Nat) : (F46 (b, x) == 0) = ((fmt.order x x != some .eq) || (fmt.order x 0 == some .lt)) := by
  rw [← unknown_eq]
  unfold F46
  simp only
  cases (!(fmt.order x 0 == some .gt || fmt.order x 0 == some .eq)) with
  | true => rfl
  | false =>
    rw [cond_false]
    simp only [cond_eq_ite]
    repeat' split
    all_goals rfl
theorem rclass_val {b : BldT} (hb : IsB b) (x : Nat) : F33 (b, x) = F46 (b, x) := by
  have hl : b.cars.length ≤ maxLen := by have := hb.cn; simp only [maxLen]; omega
  unfold F33
  simp only
  rw [rvalid_eq b hl, (vld_zero b).2 hb, bne_self_eq_false, Bool.false_or]
  rw [← unknown_eq]
  rfl
theorem lclass_val {b : BldT} (hb : IsB b) (x : Nat) : F28 (b, x) = F46 (b, x) := by
  have hl : b.cars.length ≤ maxLen := by have := hb.cn; simp only [maxLen]; omega
  unfold F28
  simp only
  rw [valid_eq b hl, (vld_zero b).2 hb, bne_self_eq_false, cond_false]
theorem class_nn {b : BldT} {x : Nat} (h : (F46 (b, x) == 0) = false) : NN x := by
  rw [class_zero] at h
  by_cases hx : NN x
  · exact hx
  · rw [(order_nan hx x).1] at h; cases h
/-- What a step comes to. -/
def stp (b : BldT) (s : Int) (x : Nat) (t1 t2 : Nat) : Int :=
  let c := F46 (b, x)
  bif c != 0 && decide (c < s) then
    (bif s == 3 then (bif fmt.order x t1 == some .lt then c else s)
     else bif s == 4 then (bif fmt.order x t2 == some .lt then c else s) else c)
  else c
theorem step_val {b : BldT} (hb : IsB b) : ∃ t1 t2, fmt.sub b.2.2.2.2.2.1 4589168020290535424 = some t1 ∧ fmt.sub b.2.2.2.2.2.2.1 4589168020290535424 = some t2 ∧
    ∀ s x, F29 (b, s, x) = stp b s x t1 t2 ∧ F34 (b, s, x) = stp b s x t1 t2 := by
  have hl : b.cars.length ≤ maxLen := by have := hb.cn; simp only [maxLen]; omega
  have hd := lds_of hb.loads
  obtain ⟨t1, e1, n1⟩ := sub_ok hd.fu margin_num
  obtain ⟨t2, e2, n2⟩ := sub_ok hd.ov margin_num
  refine ⟨t1, t2, e1, e2, fun s x => ⟨?_, ?_⟩⟩
  · unfold F29 stp
    simp only
    rw [valid_eq b hl, (vld_zero b).2 hb, bne_self_eq_false, cond_false]
    rw [show FloatKind.f64.format.sub b.2.2.2.2.2.1 4589168020290535424 = some t1 from e1, show FloatKind.f64.format.sub b.2.2.2.2.2.2.1 4589168020290535424 = some t2 from e2]
    simp only [Option.getD_some]
    cases hz : (F46 (b, x) == 0) with
    | true => rw [show (F46 (b, x) != 0) = false from by rw [bne, hz]; rfl]; rfl
    | false =>
      have hx := class_nn hz
      rw [show (FloatKind.f64.format.order x t1 == some Ordering.gt || FloatKind.f64.format.order x t1 == some Ordering.eq) = !(fmt.order x t1 == some .lt) from ge_lt hx n1,
        show (FloatKind.f64.format.order x t2 == some Ordering.gt || FloatKind.f64.format.order x t2 == some Ordering.eq) = !(fmt.order x t2 == some .lt) from ge_lt hx n2]
      cases (fmt.order x t1 == some .lt) <;> cases (fmt.order x t2 == some .lt) <;> rfl
  · unfold F34 stp
    simp only
    rw [rclass_val hb x]
    rw [show FloatKind.f64.format.sub b.2.2.2.2.2.1 4589168020290535424 = some t1 from e1, show FloatKind.f64.format.sub b.2.2.2.2.2.2.1 4589168020290535424 = some t2 from e2]
    simp only [Option.getD_some]
    cases hz : (F46 (b, x) == 0) with
    | true =>
      rw [show (F46 (b, x) != 0) = false from by rw [bne, hz]; rfl]
      rw [beq_iff_eq] at hz
      rw [hz]; rfl
    | false =>
      rw [show (F46 (b, x) != 0) = true from by rw [bne, hz]; rfl]
      rw [cond_false, Bool.true_and]
      by_cases h3 : s = 3
      · subst h3
        cases (fmt.order x t1 == some .lt) <;> cases decide (F46 (b, x) < 3) <;> rfl
      · rw [show (s == 3) = false from by simpa using h3]
        by_cases h4 : s = 4
        · subst h4
          cases (fmt.order x t2 == some .lt) <;> cases decide (F46 (b, x) < 4) <;> rfl
        · rw [show (s == 4) = false from by simpa using h4]
          cases decide (F46 (b, x) < s) <;> rfl
theorem step_eq {b : BldT} (hb : IsB b) (s : Int) (x : Nat) : F29 (b, s, x) = F34 (b, s, x) := by
  obtain ⟨t1, t2, _, _, h⟩ := step_val hb
  rw [(h s x).1, (h s x).2]
/-! Runs. -/
def stt (b : BldT) (l : List Nat) (i : Nat) : Int := (l.take i).foldl (fun s x => F29 (b, s, x)) 0
theorem stt_succ (b : BldT) (l : List Nat) (i : Nat) (h : i < l.length) : stt b l (i + 1) = F29 (b, stt b l i, nthT l (i : Int)) := by
  unfold stt
  rw [List.take_add_one, List.getElem?_eq_getElem h, List.foldl_append, nthT_nat l i h]; rfl
theorem run_val (b : BldT) (l : List Nat) (hl : l.length ≤ 5000) : F24 (b, 0, l) = (List.range l.length).map (fun i => stt b l (i + 1)) := by
  have hs : ∀ i, i < l.length → ∃ k', st24_5 (l, (l.length : Int), b) ((fun i : Nat => ((List.range i).map (fun j => stt b l (j + 1)), (i : Int), stt b l i)) i) = .next k' ((fun i : Nat => ((List.range i).map (fun j => stt b l (j + 1)), (i : Int), stt b l i)) (i + 1)) := by
    intro i hi
    refine ⟨(l, (l.length : Int), b), ?_⟩
    unfold st24_5
    simp only
    rw [show decide ((i : Int) < (l.length : Int)) = true from by simp; omega, cond_true, wrap_i64_of (x := (i : Int) + 1) (by omega) (by omega), ← stt_succ b l i hi]
    simp only [List.range_succ, List.map_append, List.map_cons, List.map_nil, Int.natCast_succ]
  have hb : st24_5 (l, (l.length : Int), b) ((fun i : Nat => ((List.range i).map (fun j => stt b l (j + 1)), (i : Int), stt b l i)) l.length) = .brk (l, (l.length : Int), b) ((fun i : Nat => ((List.range i).map (fun j => stt b l (j + 1)), (i : Int), stt b l i)) l.length) := by
    unfold st24_5
    simp only
    rw [show decide ((l.length : Int) < (l.length : Int)) = false from by simp, cond_false]
  have he := end_row_brk _ l.length hs hb (fuel := Nat.succ (mu24_5 (l, (l.length : Int), b) ([], 0, 0))) (by
    show l.length < Nat.succ ((l.length : Int) - 0).toNat
    omega)
  have hG : G24_5 (l, (l.length : Int), b) ([], 0, 0) = ((List.range l.length).map (fun j => stt b l (j + 1)), (l.length : Int), stt b l l.length) := by
    first | exact he.1 | exact he
  unfold F24
  simp only
  rw [show decide ((l.length : Int) > 5000) = false from by simp; omega, cond_false, hG]
theorem run_big (b : BldT) (s : Int) (l : List Nat) (hl : 5000 < l.length) : F24 (b, s, l) = [] := by
  unfold F24
  simp only
  rw [show decide ((l.length : Int) > 5000) = true from by simp; omega, cond_true]
theorem run_eq {b : BldT} (hb : IsB b) (s : Int) (l : List Nat) : F24 (b, s, l) = F26 (b, s, l) := by
  unfold F24 F26
  simp only
  cases decide ((l.length : Int) > 5000) with
  | true => rfl
  | false =>
    rw [cond_false, cond_false]
    have := loop_sim (step := st24_5) (k := (l, (l.length : Int), b)) (step' := st26_5) (k' := (l, b)) (fun x x' => x = x') (fun x x' hx => by
      subst hx
      unfold st24_5 st26_5
      simp only
      rw [step_eq hb]
      cases decide (x.2.1 < (l.length : Int)) with
      | true => rw [cond_true, cond_true]
      | false => rw [cond_false, cond_false]) (Nat.succ ((l.length : Int) - 0).toNat) ([], 0, s) ([], 0, s) rfl
    exact congrArg Prod.fst this.1
theorem same_self (a : List Int) : F25 (a, a) = true := by
  unfold F25
  simp only
  have h : R25_4 (a, a) 0 = none := ret_none (fun _ => True) (fun x _ => by
    unfold st25_4
    simp only
    rw [bne_self_eq_false, cond_false]
    cases decide (x < (a.length : Int)) <;> simp) _ _ trivial
  rw [h, optR_none, bne_self_eq_false, cond_false]
theorem sane_true : F27 () = true := by kernel_rfl
theorem u8_of {x : Int} (h : (Lit.int .u8 x).wf = true) : 0 ≤ x ∧ x ≤ 255 := by
  simp only [Lit.wf, Bool.and_eq_true, decide_eq_true_eq] at h
  exact ⟨h.1, h.2⟩
theorem law_runs (x : ct5.p.den) (h : InR ct5.p x) : ct5.F x = true := by
  obtain ⟨l, t, n⟩ := x
  obtain ⟨_, _, hn⟩ := h
  have hn := u8_of hn
  show F5 (l, t, n) = true
  unfold F5
  simp only
  have hb := bld_isB t
  generalize F23 t = b at hb ⊢
  obtain ⟨k, hk1, hk2, hke⟩ : ∃ k : Nat, 4999 ≤ k ∧ k ≤ 5001 ∧ IntKind.i64.wrap (IntKind.i64.wrap (5000 + IntKind.i64.wrap (Int.tmod n 3)) - 1) = (k : Int) := by
    refine ⟨(4999 + n % 3).toNat, by omega, by omega, ?_⟩
    rw [tmod_lit, if_pos hn.1, wrap_i64_of (x := n % 3) (by omega) (by omega), wrap_i64_of (x := 5000 + n % 3) (by omega) (by omega), wrap_i64_of (by omega) (by omega)]
    omega
  rw [hke]
  have hz : (zrow ty25 (k : Int)).length = k := by simp [zrow]
  have hlen : ((F24 (b, 0, zrow ty25 (k : Int))).length : Int) = if k ≤ 5000 then (k : Int) else 0 := by
    split
    · rename_i h
      have hr := run_val b (zrow ty25 (k : Int)) (by rw [hz]; exact h)
      rw [hr, List.length_map, List.length_range, hz]
    · rename_i h
      have hr := run_big b 0 (zrow ty25 (k : Int)) (by rw [hz]; omega)
      rw [hr]; rfl
  rw [hlen, ← run_eq hb, same_self, sane_true]
  split
  · rename_i h
    rw [show ((k : Int) == 0) = false from by simp; omega, show decide ((k : Int) > 5000) = false from by simp; omega, show ((k : Int) != (k : Int)) = false from by simp]
    simp
  · rename_i h
    rw [show decide ((k : Int) > 5000) = true from by simp; omega, show decide ((k : Int) ≤ 5000) = false from by simp; omega]
    simp
/-! Rises. -/
theorem stp_cases (b : BldT) (s : Int) (x t1 t2 : Nat) : stp b s x t1 t2 = F46 (b, x) ∨ (stp b s x t1 t2 = s ∧ F46 (b, x) ≠ 0 ∧ F46 (b, x) < s) := by
  unfold stp
  simp only
  cases h : (F46 (b, x) != 0 && decide (F46 (b, x) < s)) with
  | false => exact .inl rfl
  | true =>
    rw [Bool.and_eq_true, bne_iff_ne, decide_eq_true_eq] at h
    rw [cond_true]
    cases (s == 3) <;> cases (s == 4) <;> cases (fmt.order x t1 == some .lt) <;> cases (fmt.order x t2 == some .lt) <;> first | exact .inl rfl | exact .inr ⟨rfl, h⟩
theorem class_rise (b : BldT) (x : Nat) : ((F46 (b, x) == 3 && fmt.order x b.2.2.2.2.2.1 == some .lt) || (F46 (b, x) == 4 && fmt.order x b.2.2.2.2.2.2.1 == some .lt) || (F46 (b, x) == 2 && fmt.order x b.2.2.2.2.1 == some .lt)) = false := by
  unfold F46
  simp only
  cases (!(FloatKind.f64.format.order x 0 == some Ordering.gt || FloatKind.f64.format.order x 0 == some Ordering.eq)) with
  | true => rfl
  | false =>
    rw [cond_false]
    show (((bif fmt.order x b.2.2.2.2.1 == some .lt then (1 : Int) else _) == 3 && _) || _ || _) = false
    cases h1 : (fmt.order x b.2.2.2.2.1 == some .lt) <;> cases h2 : (fmt.order x b.2.2.2.2.2.1 == some .lt) <;> cases h3 : (fmt.order x b.2.2.2.2.2.2.1 == some .lt) <;> rfl
theorem law_rises (x : ct6.p.den) (h : InR ct6.p x) : ct6.F x = true := by
  obtain ⟨l, t⟩ := x
  show F6 (l, t) = true
  unfold F6
  simp only
  rw [sane_true]
  have hb := bld_isB t
  generalize F23 t = b at hb ⊢
  cases hl : decide ((l.length : Int) > 300) with
  | true => rfl
  | false =>
    rw [decide_eq_false_iff_not] at hl
    rw [cond_false, run_val b l (by omega), List.length_map, List.length_range, bne_self_eq_false, cond_false]
    obtain ⟨t1, t2, _, _, hstep⟩ := step_val hb
    have hR : R6_9 (l, (List.range l.length).map (fun i => stt b l (i + 1)), b) (0, 0) = none := ret_none (fun x => ∃ i : Nat, x = (stt b l i, (i : Int))) (fun x hx => by
      obtain ⟨i, rfl⟩ := hx
      unfold st6_9
      simp only
      cases hi : decide ((i : Int) < (l.length : Int)) with
      | false => rw [cond_false]; trivial
      | true =>
        rw [decide_eq_true_eq] at hi
        have hi : i < l.length := by omega
        have hc : nthT ((List.range l.length).map (fun i => stt b l (i + 1))) (i : Int) = stt b l (i + 1) := by
          rw [nthT_nat _ i (by simpa using hi)]; simp
        rw [cond_true, hc, stt_succ b l i hi, lclass_val hb, (hstep _ _).1]
        have hw : IntKind.i64.wrap ((i : Int) + 1) = ((i + 1 : Nat) : Int) := by rw [wrap_i64_of (by omega) (by omega)]; omega
        rw [hw]
        generalize hs : stt b l i = s
        generalize hxx : nthT l (i : Int) = y
        have hz := class_zero b y
        have hle := class_le b y
        have hri := class_rise b y
        have hnext : ∃ j : Nat, (stp b s y t1 t2, ((i + 1 : Nat) : Int)) = (stt b l j, (j : Int)) := ⟨i + 1, by rw [stt_succ b l i hi, (hstep _ _).1, hs, hxx]⟩
        rcases stp_cases b s y t1 t2 with e | ⟨e, e2, e3⟩
        · rw [e] at hnext ⊢
          rw [hz, show ((FloatKind.f64.format.order y y != some Ordering.eq) || (FloatKind.f64.format.order y 0 == some Ordering.lt)) = ((fmt.order y y != some .eq) || (fmt.order y 0 == some .lt)) from rfl, bne_self_eq_false, cond_false]
          rw [hri, Bool.and_false, cond_false, bne_self_eq_false, Bool.and_false, cond_false]
          exact hnext
        · rw [e] at hnext ⊢
          have h0 : (F46 (b, y) == 0) = false := by simpa using e2
          rw [h0] at hz
          rw [show ((FloatKind.f64.format.order y y != some Ordering.eq) || (FloatKind.f64.format.order y 0 == some Ordering.lt)) = false from hz.symm, show (s == 0) = false from by simp; omega, show decide (s > s) = false from by simp]
          simp only [bne_self_eq_false, Bool.false_and, cond_false]
          exact hnext) _ _ ⟨0, rfl⟩
    rw [hR, optR_none]
end Go.Proofs.Ytabifaikklcghaa.Sp
