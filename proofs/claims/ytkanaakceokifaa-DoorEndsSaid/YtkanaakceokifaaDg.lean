/- A door that is played ends: the law (own work). -/
import Derived.Test.YtkanaakceokifaaDf
namespace Go.Proofs.Ytkanaakceokifaa.Sp
open Go Sy
set_option linter.unusedVariables false
set_option linter.unusedSimpArgs false
/-- What holds ahead of round i. u: is it nudged? -/
def InvN (T ho : Int) (u : Bool) (cmd row last i st tm si cy : Int) : Prop :=
  1 ≤ i ∧ 0 ≤ cy ∧ cy ≤ i ∧ 0 ≤ row ∧ row ≤ i ∧ 0 ≤ tm ∧ tm ≤ i ∧ 0 ≤ si ∧ si ≤ i ∧
  ((u = false ∧ si = 0 ∧ st = 1 ∧ cmd = 3 ∧ tm = i - 1 ∧ i - 1 < T ∧ (i = 1 ∧ last = 0 ∧ row = 0 ∨ last = 1 ∧ row = i - 1)) ∨
   (u = false ∧ 1 ≤ si ∧ si ≤ ho ∧ i - 1 ≤ T + si - 1 ∧ ((st = 1 ∧ cmd = 3 ∧ (tm = 0 ∨ last = 1 ∧ tm ≤ row ∧ row < T)) ∨ (st = 2 ∧ cmd = 0) ∨ (st = 3 ∧ cmd = 4 ∧ (tm = 0 ∨ last = 2 ∧ tm ≤ row ∧ row < T)))) ∨
   (si > ho ∧ st = 2 ∧ si = ho + 1 ∧ cmd = 0 ∧ tm = 0 ∧ i - 1 ≤ T + si - 1) ∨
   (u = true ∧ si > ho ∧ st = 3 ∧ cmd = 5 ∧ i - 1 ≤ T + ho + 1 + tm ∧ (tm = 0 ∨ last = 2 ∧ tm ≤ row ∧ row < T)))
set_option maxHeartbeats 8000000 in
theorem round {T dw ho : Int} {u : Bool} {cmd row last i st tm si cy d r p : Int} {b : Bool} (hT : 1 ≤ T ∧ T ≤ 6) (hh : 1 ≤ ho ∧ ho ≤ 100) (h : InvN T ho u cmd row last i st tm si cy)
    (d3 : cmd = 3 → d = 1) (d45 : cmd = 4 ∨ cmd = 5 → d = 2) (d0 : cmd = 0 → d = 0)
    (r0 : d = 0 → r = 0 ∨ r = row) (r1 : d ≠ 0 → (last = d ∧ r = row + 1) ∨ (last ≠ d ∧ r = 1)) (p1 : d = 1 → r ≥ T → p = 1) (p2 : d = 2 → r ≥ T → p = 2) :
    dstep dw ho (st, tm, si, u, cy) p b = ((0, 0, 0, false, 0), 0) ∨
    ∃ st' tm' si' u' cy' cmd', dstep dw ho (st, tm, si, u, cy) p b = ((st', tm', si', u', cy'), cmd') ∧ st' ≠ 0 ∧ tm' ≤ T + 5000 ∧ ((st' = 1 ∨ st' = 3) → tm' ≤ T) ∧ InvN T ho u' cmd' r d (i + 1) st' tm' si' cy' := by
  unfold dstep
  simp only []
  have hsi : ∃ sj, (if si ≠ 0 then si + 1 else 0) = sj ∧ ((si ≠ 0 ∧ sj = si + 1) ∨ (si = 0 ∧ sj = 0)) := by
    by_cases h0 : si = 0
    · exact ⟨0, by simp [h0], Or.inr ⟨h0, rfl⟩⟩
    · exact ⟨si + 1, by simp [h0], Or.inl ⟨h0, rfl⟩⟩
  obtain ⟨sj, hj, hsj⟩ := hsi
  rw [hj]
  clear hj
  have hr : 0 ≤ r ∧ r ≤ i + 1 := by
    have := h
    unfold InvN at this
    by_cases hd : d = 0
    · have := r0 hd; omega
    · have := r1 hd; omega
  unfold InvN at h
  obtain ⟨b1, b2, b3, b4, b5, b6, b7, b8, b9, h⟩ := h
  rcases h with ⟨cu, c1, c2, c3, c4, c5, c6⟩ | ⟨cu, c1, c2, c3, ⟨c4, c5, c6⟩ | ⟨c4, c5⟩ | ⟨c4, c5, c6⟩⟩ | ⟨c1, c2, c3, c4, c5, c6⟩ | ⟨cu, c1, c2, c3, c4, c5⟩
  all_goals (try subst cu)
  · have hd := d3 c3
    subst hd c1 c2 c3
    have hr1 := r1 (by omega)
    have hp := p1 rfl
    simp only [and_true, true_and, or_true, true_or, or_false, false_or, not_true_eq_false, and_false, false_and, not_false_eq_true, ne_eq, if_true, if_false, Bool.false_eq_true, Int.reduceEq, Int.reduceNeg, Int.reduceLE, Int.reduceLT, reduceCtorEq]
    (repeat' split) <;> first
      | exact Or.inl rfl
      | (exfalso; omega)
      | (refine Or.inr ⟨_, _, _, _, _, _, rfl, ?_, ?_, ?_, ?_⟩ <;> first | omega | (simp only [InvN, and_true, true_and, or_true, true_or, or_false, false_or, not_true_eq_false, and_false, false_and, not_false_eq_true, ne_eq, if_true, if_false, Bool.false_eq_true, Int.reduceEq, Int.reduceNeg, Int.reduceLE, Int.reduceLT, reduceCtorEq]; omega))
  · have hd := d3 c5
    subst hd c4 c5
    have hr1 := r1 (by omega)
    have hp := p1 rfl
    simp only [and_true, true_and, or_true, true_or, or_false, false_or, not_true_eq_false, and_false, false_and, not_false_eq_true, ne_eq, if_true, if_false, Bool.false_eq_true, Int.reduceEq, Int.reduceNeg, Int.reduceLE, Int.reduceLT, reduceCtorEq]
    (repeat' split) <;> first
      | exact Or.inl rfl
      | (exfalso; omega)
      | (refine Or.inr ⟨_, _, _, _, _, _, rfl, ?_, ?_, ?_, ?_⟩ <;> first | omega | (simp only [InvN, and_true, true_and, or_true, true_or, or_false, false_or, not_true_eq_false, and_false, false_and, not_false_eq_true, ne_eq, if_true, if_false, Bool.false_eq_true, Int.reduceEq, Int.reduceNeg, Int.reduceLE, Int.reduceLT, reduceCtorEq]; omega))
  · have hd := d0 c5
    subst hd c4 c5
    have hr0 := r0 rfl
    simp only [and_true, true_and, or_true, true_or, or_false, false_or, not_true_eq_false, and_false, false_and, not_false_eq_true, ne_eq, if_true, if_false, Bool.false_eq_true, Int.reduceEq, Int.reduceNeg, Int.reduceLE, Int.reduceLT, reduceCtorEq]
    (repeat' split) <;> first
      | exact Or.inl rfl
      | (exfalso; omega)
      | (refine Or.inr ⟨_, _, _, _, _, _, rfl, ?_, ?_, ?_, ?_⟩ <;> first | omega | (simp only [InvN, and_true, true_and, or_true, true_or, or_false, false_or, not_true_eq_false, and_false, false_and, not_false_eq_true, ne_eq, if_true, if_false, Bool.false_eq_true, Int.reduceEq, Int.reduceNeg, Int.reduceLE, Int.reduceLT, reduceCtorEq]; omega))
  · have hd := d45 (Or.inl c5)
    subst hd c4 c5
    have hr1 := r1 (by omega)
    have hp := p2 rfl
    simp only [and_true, true_and, or_true, true_or, or_false, false_or, not_true_eq_false, and_false, false_and, not_false_eq_true, ne_eq, if_true, if_false, Bool.false_eq_true, Int.reduceEq, Int.reduceNeg, Int.reduceLE, Int.reduceLT, reduceCtorEq]
    (repeat' split) <;> first
      | exact Or.inl rfl
      | (exfalso; omega)
      | (refine Or.inr ⟨_, _, _, _, _, _, rfl, ?_, ?_, ?_, ?_⟩ <;> first | omega | (simp only [InvN, and_true, true_and, or_true, true_or, or_false, false_or, not_true_eq_false, and_false, false_and, not_false_eq_true, ne_eq, if_true, if_false, Bool.false_eq_true, Int.reduceEq, Int.reduceNeg, Int.reduceLE, Int.reduceLT, reduceCtorEq]; omega))
  · have hd := d0 c4
    subst hd c2 c4
    have hr0 := r0 rfl
    cases u <;> simp only [and_true, true_and, or_true, true_or, or_false, false_or, not_true_eq_false, and_false, false_and, not_false_eq_true, ne_eq, if_true, if_false, Bool.false_eq_true, Int.reduceEq, Int.reduceNeg, Int.reduceLE, Int.reduceLT, reduceCtorEq] <;> (repeat' split) <;> first
      | exact Or.inl rfl
      | (exfalso; omega)
      | (refine Or.inr ⟨_, _, _, _, _, _, rfl, ?_, ?_, ?_, ?_⟩ <;> first | omega | (simp only [InvN, and_true, true_and, or_true, true_or, or_false, false_or, not_true_eq_false, and_false, false_and, not_false_eq_true, ne_eq, if_true, if_false, Bool.false_eq_true, Int.reduceEq, Int.reduceNeg, Int.reduceLE, Int.reduceLT, reduceCtorEq]; omega))
  · have hd := d45 (Or.inr c3)
    subst hd c2 c3
    have hr1 := r1 (by omega)
    have hp := p2 rfl
    simp only [and_true, true_and, or_true, true_or, or_false, false_or, not_true_eq_false, and_false, false_and, not_false_eq_true, ne_eq, if_true, if_false, Bool.false_eq_true, Int.reduceEq, Int.reduceNeg, Int.reduceLE, Int.reduceLT, reduceCtorEq]
    (repeat' split) <;> first
      | exact Or.inl rfl
      | (exfalso; omega)
      | (refine Or.inr ⟨_, _, _, _, _, _, rfl, ?_, ?_, ?_, ?_⟩ <;> first | omega | (simp only [InvN, and_true, true_and, or_true, true_or, or_false, false_or, not_true_eq_false, and_false, false_and, not_false_eq_true, ne_eq, if_true, if_false, Bool.false_eq_true, Int.reduceEq, Int.reduceNeg, Int.reduceLE, Int.reduceLT, reduceCtorEq]; omega))
theorem dir_facts (cmd : Int) : (cmd = 3 → dirB cmd = 1) ∧ (cmd = 4 ∨ cmd = 5 → dirB cmd = 2) ∧ (cmd = 0 → dirB cmd = 0) ∧ (dirB cmd = 0 ∨ dirB cmd = 1 ∨ dirB cmd = 2) := by
  unfold dirB
  simp only [Bool.cond_eq_ite, Bool.or_eq_true, beq_iff_eq]
  refine ⟨?_, ?_, ?_, ?_⟩
  · intro h; rw [if_neg (by omega), if_pos h]
  · intro h; rw [if_pos h]
  · intro h; rw [if_neg (by omega), if_neg (by omega)]
  · (repeat' split) <;> omega
theorem row_facts (d last row : Int) (hr : 0 ≤ row ∧ row ≤ 1000) : (d = 0 → rowB d last row = 0 ∨ rowB d last row = row) ∧ (d ≠ 0 → (last = d ∧ rowB d last row = row + 1) ∨ (last ≠ d ∧ rowB d last row = 1)) := by
  unfold rowB row0B
  simp only [Bool.cond_eq_ite, bne_iff_ne, ne_eq]
  constructor
  · intro h; rw [if_neg (by omega)]; split <;> omega
  · intro h; rw [if_pos h]
    split
    · right; rw [wrap_i64_of (by omega) (by omega)]; omega
    · left; rw [wrap_i64_of (by omega) (by omega)]; omega
theorem place_facts (d r place T n : Int) (hd : d = 1 ∨ d = 2) (h : r ≥ T) : placeB d r place T n = d := by
  have e : decide (r ≥ T) = true := by simpa using h
  rcases hd with rfl | rfl
  · unfold placeB
    have e2 : nthT [(0 : Int), 1, 2] 1 = 1 := rfl
    rw [e2, e]
    cases hp : place != 1 with
    | true => rfl
    | false => simpa using hp
  · unfold placeB
    have e2 : nthT [(0 : Int), 1, 2] 2 = 2 := rfl
    rw [e2, e]
    cases hp : place != 2 with
    | true => rfl
    | false => simpa using hp
theorem door_sane : F23 () = true := by kernel_rfl
/-- All rounds. -/
theorem rounds {k : KD} (hT : 1 ≤ k.2.2.2.2.2.2.1 ∧ k.2.2.2.2.2.2.1 ≤ 6) (hh : 1 ≤ k.2.2.2.2.2.2.2.2.1 ∧ k.2.2.2.2.2.2.2.2.1 ≤ 100) {x : XD}
    (h : InvN k.2.2.2.2.2.2.1 k.2.2.2.2.2.2.2.2.1 x.2.2.2.2.2.2.2.2.1 x.1 x.2.2.1 x.2.2.2.1 x.2.2.2.2.1 x.2.2.2.2.2.1 x.2.2.2.2.2.2.1 x.2.2.2.2.2.2.2.1 x.2.2.2.2.2.2.2.2.2) :
    R8_8 k x = some true := by
  refine loop_spec (k := k) (step := st8_8) (fun x : XD => InvN k.2.2.2.2.2.2.1 k.2.2.2.2.2.2.2.2.1 x.2.2.2.2.2.2.2.2.1 x.1 x.2.2.1 x.2.2.2.1 x.2.2.2.2.1 x.2.2.2.2.2.1 x.2.2.2.2.2.2.1 x.2.2.2.2.2.2.2.1 x.2.2.2.2.2.2.2.2.2) (mu8_8 k) (fun o _ => o = some true) (fun x hx => ?_) _ x h (Nat.lt_succ_self _)
  obtain ⟨cmd, pl, row, last, i, st, tm, si, nu, cy⟩ := x
  have hx : InvN k.2.2.2.2.2.2.1 k.2.2.2.2.2.2.2.2.1 nu cmd row last i st tm si cy := hx
  have hb : bndB k = 2 * k.2.2.2.2.2.2.1 + k.2.2.2.2.2.2.2.2.1 + 2 := by
    unfold bndB
    rw [wrap_i64_of (x := 2 * k.2.2.2.2.2.2.1) (by omega) (by omega), wrap_i64_of (x := 2 * k.2.2.2.2.2.2.1 + k.2.2.2.2.2.2.2.2.1) (by omega) (by omega), wrap_i64_of (by omega) (by omega)]
  have hmu : ∀ x : XD, mu8_8 k x = (bndB k - x.2.2.2.2.1 + 1).toNat := fun x => rfl
  have hi : i ≤ bndB k := by
    have := hx
    unfold InvN at this
    omega
  have hx' := hx
  unfold InvN at hx'
  rw [st_est]
  simp only [hi, decide_true, cond_true, est2_eq, finB]
  have hd := dir_facts cmd
  have hr := row_facts (dirB cmd) last row (by omega)
  have hp1 : dirB cmd = 1 → rowB (dirB cmd) last row ≥ k.2.2.2.2.2.2.1 → placeB (dirB cmd) (rowB (dirB cmd) last row) pl k.2.2.2.2.2.2.1 (nOf k.1 i) = 1 := fun h1 h2 => by rw [place_facts _ _ _ _ _ (Or.inl h1) h2]; exact h1
  have hp2 : dirB cmd = 2 → rowB (dirB cmd) last row ≥ k.2.2.2.2.2.2.1 → placeB (dirB cmd) (rowB (dirB cmd) last row) pl k.2.2.2.2.2.2.1 (nOf k.1 i) = 2 := fun h1 h2 => by rw [place_facts _ _ _ _ _ (Or.inr h1) h2]; exact h1
  have hst : 1 ≤ st ∧ st ≤ 3 := by omega
  rw [dstep_eq _ _ _ _ hst (by show 0 ≤ tm ∧ tm ≤ 5000; omega) (by show 0 ≤ si ∧ si ≤ 4000; omega) (by show 0 ≤ cy ∧ cy ≤ 5000; omega)]
  have key := round (dw := k.2.2.2.2.2.2.2.1) (b := (Int.tmod (nOf k.1 i) 3 == 1)) hT hh hx hd.1 hd.2.1 hd.2.2.1 hr.1 hr.2 hp1 hp2
  generalize placeB (dirB cmd) (rowB (dirB cmd) last row) pl k.2.2.2.2.2.2.1 (nOf k.1 i) = p at key ⊢
  generalize rowB (dirB cmd) last row = r at key ⊢
  rcases key with h0 | ⟨st', tm', si', u', cy', cmd', h1, h2, h3, h4, h5⟩
  · rw [h0]
    simp [coreB, F26, door_sane]
  · rw [h1]
    have e1 : F26 (k.2, st', tm', si', u', cy') = false := by
      unfold F26
      rw [Bool.eq_false_iff]
      simp only [ne_eq, Bool.and_eq_true, Bool.or_eq_true, beq_iff_eq, decide_eq_true_eq]
      intro ⟨q1, q2⟩
      have := h4 q1
      omega
    have e2 : (st' == 0) = false := by simpa using h2
    simp only [coreB, e1, e2, cond_false]
    rw [wrap_i64_of (by omega) (by omega)]
    refine ⟨h5, ?_⟩
    rw [hmu, hmu]
    show (bndB k - (i + 1) + 1).toNat < (bndB k - i + 1).toNat
    omega
theorem law_ends (x : (Int × Int × Int) × List Int) (h : InR ct8.p x) : F8 x = true := by
  simp only [ct8, InR, Lit.wf, Bool.and_eq_true, decide_eq_true_eq] at h
  obtain ⟨⟨x1, x2, x3⟩, l⟩ := x
  have hx1 : 0 ≤ x1 ∧ x1 ≤ 255 := h.1.1
  have hx2 : 0 ≤ x2 ∧ x2 ≤ 255 := h.1.2.1
  have hx3 : 0 ≤ x3 ∧ x3 ≤ 255 := h.1.2.2
  unfold F8
  simp only []
  have hK : K8_1 ((x1, x2, x3), l) = ((1, 0, 0, false, 0), 3) := by
    unfold K8_1
    rfl
  rw [hK]
  obtain ⟨T, hT⟩ : ∃ T, IntKind.i64.wrap ((1 : Int) + (IntKind.i64.wrap (Int.tmod x1 (6 : Int)))) = T := ⟨_, rfl⟩
  obtain ⟨dw, hD⟩ : ∃ dw, IntKind.i64.wrap ((1 : Int) + (IntKind.i64.wrap (Int.tmod x2 (8 : Int)))) = dw := ⟨_, rfl⟩
  have hT' : 1 ≤ T ∧ T ≤ 6 := by rw [← hT]; simp only [tmod_ite, IntKind.wrap_i64]; omega
  have hD' : 1 ≤ dw ∧ dw ≤ 8 := by rw [← hD]; simp only [tmod_ite, IntKind.wrap_i64]; omega
  simp only [hT, hD]
  obtain ⟨ho, hH⟩ : ∃ ho, IntKind.i64.wrap (dw + (IntKind.i64.wrap (Int.tmod x3 (30 : Int)))) = ho := ⟨_, rfl⟩
  have hH' : 1 ≤ ho ∧ ho ≤ 100 := by rw [← hH]; simp only [tmod_ite, IntKind.wrap_i64]; omega
  simp only [hH]
  have := rounds (k := (l, 0, 0, 0, 0, 0, T, dw, ho, 0)) hT' hH' (x := (3, 2, 0, 0, 1, 1, 0, 0, false, 0)) (by simp only [InvN, and_true, true_and, or_true, true_or, or_false, false_or, not_true_eq_false, and_false, false_and, not_false_eq_true, ne_eq, if_true, if_false, Bool.false_eq_true, Int.reduceEq, Int.reduceNeg, Int.reduceLE, Int.reduceLT]; omega)
  rw [this]
  rfl
end Go.Proofs.Ytkanaakceokifaa.Sp
