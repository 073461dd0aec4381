/- Load: the program's steps, and the laws of classes and steps (own work). -/
import Derived.Test.YtabifaikklcghaaK4
import Derived.Test.YtabifaikklcghaaTr
namespace Go.Proofs.Ytabifaikklcghaa.Sp
open Go Sy Ieee
set_option linter.unusedVariables false
set_option linter.unusedSimpArgs false
set_option maxRecDepth 10000

theorem class_le (b : BldT) (x : Nat) : 0 ≤ F46 (b, x) ∧ F46 (b, x) ≤ 4 := by
  unfold F46
  simp only [cond_eq_ite]
  repeat' split
  all_goals omega
theorem class_zero (b : BldT) (x : Nat) : (F46 (b, x) == 0) = ((fmt.order x x != some .eq) || (fmt.order x 0 == some .lt)) := by
  rw [← unknown_eq]
  unfold F46
  simp only
  cases (!(fmt.order x 0 == some .gt || fmt.order x 0 == some .eq)) with
  | true => rfl
  | false =>
    rw [cond_false]
    simp only [cond_eq_ite]
    repeat' split
    all_goals rfl
theorem rclass_val {b : BldT} (hb : IsB b) (x : Nat) : F33 (b, x) = F46 (b, x) := by
  have hl : b.cars.length ≤ maxLen := by have := hb.cn; simp only [maxLen]; omega
  unfold F33
  simp only
  rw [rvalid_eq b hl, (vld_zero b).2 hb, bne_self_eq_false, Bool.false_or]
  rw [← unknown_eq]
  rfl
theorem lclass_val {b : BldT} (hb : IsB b) (x : Nat) : F28 (b, x) = F46 (b, x) := by
  have hl : b.cars.length ≤ maxLen := by have := hb.cn; simp only [maxLen]; omega
  unfold F28
  simp only
  rw [valid_eq b hl, (vld_zero b).2 hb, bne_self_eq_false, cond_false]
theorem class_nn {b : BldT} {x : Nat} (h : (F46 (b, x) == 0) = false) : NN x := by
  rw [class_zero] at h
  by_cases hx : NN x
  · exact hx
  · rw [(order_nan hx x).1] at h; cases h
/-- What a step comes to. -/
def stp (b : BldT) (s : Int) (x : Nat) (t1 t2 : Nat) : Int :=
  let c := F46 (b, x)
  bif c != 0 && decide (c < s) then
    (bif s == 3 then (bif fmt.order x t1 == some .lt then c else s)
     else bif s == 4 then (bif fmt.order x t2 == some .lt then c else s) else c)
  else c
theorem step_val {b : BldT} (hb : IsB b) : ∃ t1 t2, fmt.sub b.2.2.2.2.2.1 4589168020290535424 = some t1 ∧ fmt.sub b.2.2.2.2.2.2.1 4589168020290535424 = some t2 ∧
    ∀ s x, F29 (b, s, x) = stp b s x t1 t2 ∧ F34 (b, s, x) = stp b s x t1 t2 := by
  have hl : b.cars.length ≤ maxLen := by have := hb.cn; simp only [maxLen]; omega
  have hd := lds_of hb.loads
  obtain ⟨t1, e1, n1⟩ := sub_ok hd.fu margin_num
  obtain ⟨t2, e2, n2⟩ := sub_ok hd.ov margin_num
  refine ⟨t1, t2, e1, e2, fun s x => ⟨?_, ?_⟩⟩
  · unfold F29 stp
    simp only
    rw [valid_eq b hl, (vld_zero b).2 hb, bne_self_eq_false, cond_false]
    rw [show FloatKind.f64.format.sub b.2.2.2.2.2.1 4589168020290535424 = some t1 from e1, show FloatKind.f64.format.sub b.2.2.2.2.2.2.1 4589168020290535424 = some t2 from e2]
    simp only [Option.getD_some]
    cases hz : (F46 (b, x) == 0) with
    | true => rw [show (F46 (b, x) != 0) = false from by rw [bne, hz]; rfl]; rfl
    | false =>
      have hx := class_nn hz
      rw [show (FloatKind.f64.format.order x t1 == some Ordering.gt || FloatKind.f64.format.order x t1 == some Ordering.eq) = !(fmt.order x t1 == some .lt) from ge_lt hx n1,
        show (FloatKind.f64.format.order x t2 == some Ordering.gt || FloatKind.f64.format.order x t2 == some Ordering.eq) = !(fmt.order x t2 == some .lt) from ge_lt hx n2]
      cases (fmt.order x t1 == some .lt) <;> cases (fmt.order x t2 == some .lt) <;> rfl
  · unfold F34 stp
    simp only
    rw [rclass_val hb x]
    rw [show FloatKind.f64.format.sub b.2.2.2.2.2.1 4589168020290535424 = some t1 from e1, show FloatKind.f64.format.sub b.2.2.2.2.2.2.1 4589168020290535424 = some t2 from e2]
    simp only [Option.getD_some]
    cases hz : (F46 (b, x) == 0) with
    | true =>
      rw [show (F46 (b, x) != 0) = false from by rw [bne, hz]; rfl]
      rw [beq_iff_eq] at hz
      rw [hz]; rfl
    | false =>
      rw [show (F46 (b, x) != 0) = true from by rw [bne, hz]; rfl]
      rw [cond_false, Bool.true_and]
      by_cases h3 : s = 3
      · subst h3
        cases (fmt.order x t1 == some .lt) <;> cases decide (F46 (b, x) < 3) <;> rfl
      · rw [show (s == 3) = false from by simpa using h3]
        by_cases h4 : s = 4
        · subst h4
          cases (fmt.order x t2 == some .lt) <;> cases decide (F46 (b, x) < 4) <;> rfl
        · rw [show (s == 4) = false from by simpa using h4]
          cases decide (F46 (b, x) < s) <;> rfl
theorem step_eq {b : BldT} (hb : IsB b) (s : Int) (x : Nat) : F29 (b, s, x) = F34 (b, s, x) := by
  obtain ⟨t1, t2, _, _, h⟩ := step_val hb
  rw [(h s x).1, (h s x).2]
/-! Runs. -/
theorem sane_true : F27 () = true := by kernel_rfl
theorem class_all (b : BldT) (hl : b.cars.length ≤ maxLen) (x : Nat) : F28 (b, x) = F33 (b, x) := by
  by_cases hb : IsB b
  · rw [rclass_val hb, lclass_val hb]
  · have hv : (vld b != (0 : Int)) = true := by
      rw [bne_iff_ne]
      exact fun h => hb ((vld_zero b).1 h)
    unfold F28 F33
    simp only
    rw [valid_eq b hl, rvalid_eq b hl, hv]
    rfl
theorem law_classes (x : ct10.p.den) (h : InR ct10.p x) : ct10.F x = true := by
  obtain ⟨b0, y, t⟩ := x
  show F10 (b0, y, t) = true
  unfold F10
  simp only
  rw [sane_true]
  cases hc : decide ((b0.2.2.2.2.2.2.2.length : Int) > 20) with
  | true => rfl
  | false =>
    rw [decide_eq_false_iff_not] at hc
    have hb := bld_isB t
    generalize F23 t = b at hb ⊢
    generalize F32 b ++ [y] = l
    rw [cond_false]
    have h : R10_6 (l, b) 0 = none := ret_none (fun _ => True) (fun x _ => by
      unfold st10_6
      simp only
      rw [rclass_val hb, lclass_val hb, bne_self_eq_false, cond_false]
      cases decide (x < (l.length : Int)) <;> simp) _ _ trivial
    rw [h, optR_none, class_all b0 (by show b0.2.2.2.2.2.2.2.length ≤ maxLen; simp only [maxLen]; omega) y, beq_self_eq_true]
    rfl
theorem law_lsteps (x : ct11.p.den) (h : InR ct11.p x) : ct11.F x = true := by
  obtain ⟨s, y, t⟩ := x
  show F11 (s, y, t) = true
  unfold F11
  simp only
  have hb := bld_isB t
  generalize F23 t = b at hb ⊢
  generalize F32 b ++ [y] = l
  have h7 : ∀ c : Int, R11_7 (l, c, b) 0 = none := fun c => ret_none (fun _ => True) (fun x _ => by
      unfold st11_7
      simp only
      rw [step_eq hb, beq_self_eq_true, Bool.not_true, cond_false]
      cases decide (x < (l.length : Int)) <;> simp) _ _ trivial
  have h : R11_4 (l, b) (-1) = none := ret_none (fun _ => True) (fun x _ => by
      unfold st11_4
      simp only
      rw [h7, optR_none]
      cases decide (x < (6 : Int)) <;> simp) _ _ trivial
  have hv : F37 ((0 : Int), (0 : Int), (0 : Int), (0 : Int), (0 : Nat), (0 : Nat), (0 : Nat), []) ≠ 0 := fun h => by
    have := valid_b (b := ((0 : Int), (0 : Int), (0 : Int), (0 : Int), (0 : Nat), (0 : Nat), (0 : Nat), [])) (by show ([] : List _).length ≤ maxLen; simp [maxLen]) h
    have h2 : (2 : Int) ≤ 0 ∧ (0 : Int) ≤ 32 := this.fl
    omega
  have hz : F29 (((0 : Int), (0 : Int), (0 : Int), (0 : Int), (0 : Nat), (0 : Nat), (0 : Nat), []), s, y) = 0 := by
    unfold F29
    simp only
    rw [bne_iff_ne.2 hv]
    rfl
  rw [h, optR_none, step_eq hb, beq_self_eq_true, hz, sane_true]
  rfl
end Go.Proofs.Ytabifaikklcghaa.Sp
