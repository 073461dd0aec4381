/- The laws of the drive: times, and reversing (own work). -/
import Derived.Test.YtjdaplmlmmnokaaRk
namespace Go.Proofs.Ytjdaplmlmmnokaa.Sp
open Go Sy
set_option linter.unusedVariables false
set_option linter.unusedSimpArgs false
/-- A step from f to t behind j of k ticks. -/
def mv (f t k j : Int) : RigT := if j = 0 then (f, f, 0, 2, 0, 0) else if j < k then (f, t, k - j, 2, 0, 0) else (t, t, 0, 2, 0, 0)
/-- A door behind j of k ticks. -/
def op (f k j : Int) : RigT := if j = 0 then (f, f, 0, 2, 0, 0) else if j < k then (f, f, 0, 0, 1, k - j) else (f, f, 0, 1, 0, 0)
/-- A door that closes behind j of k ticks. -/
def cl (f k j : Int) : RigT := if j < k then (f, f, 0, 0, 2, k - j) else (f, f, 0, 2, 0, 0)
theorem clamp_of {k : Int} (h : 1 ≤ k ∧ k ≤ 10000) : clampT k = k := by unfold clampT; omega
theorem isSt_mv {fl f t k j : Int} (h : 2 ≤ fl ∧ fl ≤ 32) (hf : 0 ≤ f ∧ f ≤ fl - 1) (ht : 0 ≤ t ∧ t ≤ fl - 1) (hd : t = f + 1 ∨ t = f - 1) (hk : 1 ≤ k ∧ k ≤ 10000) (hj : 0 ≤ j ∧ j ≤ k) : IsSt fl (mv f t k j) := by
  unfold mv
  (repeat' split) <;> simp only [IsSt, and_true, true_and, or_true, true_or, or_false, false_or, not_true_eq_false, and_false, false_and, not_false_eq_true, ne_eq, if_true, if_false, Bool.false_eq_true, Int.reduceEq, Int.reduceNeg, Int.reduceLE, Int.reduceLT] <;> omega
theorem isSt_op {fl f k j : Int} (h : 2 ≤ fl ∧ fl ≤ 32) (hf : 0 ≤ f ∧ f ≤ fl - 1) (hk : 1 ≤ k ∧ k ≤ 10000) (hj : 0 ≤ j ∧ j ≤ k) : IsSt fl (op f k j) := by
  unfold op
  (repeat' split) <;> simp only [IsSt, and_true, true_and, or_true, true_or, or_false, false_or, not_true_eq_false, and_false, false_and, not_false_eq_true, ne_eq, if_true, if_false, Bool.false_eq_true, Int.reduceEq, Int.reduceNeg, Int.reduceLE, Int.reduceLT] <;> omega
theorem isSt_cl {fl f k j : Int} (h : 2 ≤ fl ∧ fl ≤ 32) (hf : 0 ≤ f ∧ f ≤ fl - 1) (hk : 1 ≤ k ∧ k ≤ 10000) (hj : 1 ≤ j ∧ j ≤ k) : IsSt fl (cl f k j) := by
  unfold cl
  (repeat' split) <;> simp only [IsSt, and_true, true_and, or_true, true_or, or_false, false_or, not_true_eq_false, and_false, false_and, not_false_eq_true, ne_eq, if_true, if_false, Bool.false_eq_true, Int.reduceEq, Int.reduceNeg, Int.reduceLE, Int.reduceLT] <;> omega
theorem mv_step {fl f t k j cmd : Int} (h : 2 ≤ fl ∧ fl ≤ 32) (hf : 0 ≤ f ∧ f ≤ fl - 1) (ht : 0 ≤ t ∧ t ≤ fl - 1) (hd : cmd = 1 ∧ t = f + 1 ∨ cmd = 2 ∧ t = f - 1) (hk : 1 ≤ k ∧ k ≤ 10000) (hj : 0 ≤ j ∧ j < k) :
    stp fl (mv f t k j) cmd k = mv f t k (j + 1) := by
  have hs := isSt_mv h hf ht (by omega) hk (j := j) (by omega)
  simp only [stp, hs, not_true_eq_false, if_false, clamp_of hk]
  by_cases h0 : j = 0
  · subst h0
    have e : mv f t k 0 = (f, f, 0, 2, 0, 0) := by simp [mv]
    have hn : nextOf (f, f, 0, 2, 0, 0) cmd = t := by unfold nextOf; (repeat' split) <;> simp only [] <;> omega
    rw [e]
    simp only [hn, and_true, true_and, or_true, true_or, or_false, false_or, not_true_eq_false, and_false, false_and, not_false_eq_true, ne_eq, if_true, if_false, Bool.false_eq_true, Int.reduceEq, Int.reduceNeg, Int.reduceLE, Int.reduceLT]
    rw [if_pos (by omega)]
    simp only [mv, moved, and_true, true_and, or_true, true_or, or_false, false_or, not_true_eq_false, and_false, false_and, not_false_eq_true, ne_eq, if_true, if_false, Bool.false_eq_true, Int.reduceEq, Int.reduceNeg, Int.reduceLE, Int.reduceLT]
    (repeat' split) <;> first | (exfalso; omega) | exact tup6 (by omega) (by omega) (by omega) (by omega) (by omega) (by omega)
  · have e : mv f t k j = (f, t, k - j, 2, 0, 0) := by unfold mv; rw [if_neg h0, if_pos hj.2]
    rw [e]
    simp only []
    rw [if_pos (by omega)]
    simp only [mv, moved, and_true, true_and, or_true, true_or, or_false, false_or, not_true_eq_false, and_false, false_and, not_false_eq_true, ne_eq, if_true, if_false, Bool.false_eq_true, Int.reduceEq, Int.reduceNeg, Int.reduceLE, Int.reduceLT]
    (repeat' split) <;> first | (exfalso; omega) | exact tup6 (by omega) (by omega) (by omega) (by omega) (by omega) (by omega)
theorem op_step {fl f k j : Int} (h : 2 ≤ fl ∧ fl ≤ 32) (hf : 0 ≤ f ∧ f ≤ fl - 1) (hk : 1 ≤ k ∧ k ≤ 10000) (hj : 0 ≤ j ∧ j < k) :
    stp fl (op f k j) 3 k = op f k (j + 1) := by
  have hs := isSt_op h hf hk (j := j) (by omega)
  simp only [stp, hs, not_true_eq_false, if_false, clamp_of hk]
  by_cases h0 : j = 0
  · subst h0
    have e : op f k 0 = (f, f, 0, 2, 0, 0) := by simp [op]
    rw [e]
    simp only [nextOf, aimOf, doorOf, and_true, true_and, or_true, true_or, or_false, false_or, not_true_eq_false, and_false, false_and, not_false_eq_true, ne_eq, if_true, if_false, Bool.false_eq_true, Int.reduceEq, Int.reduceNeg, Int.reduceLE, Int.reduceLT]
    unfold op
    (repeat' split) <;> first | (exfalso; omega) | exact tup6 (by omega) (by omega) (by omega) (by omega) (by omega) (by omega)
  · have e : op f k j = (f, f, 0, 0, 1, k - j) := by unfold op; rw [if_neg h0, if_pos hj.2]
    rw [e]
    simp only [nextOf, aimOf, doorOf, and_true, true_and, or_true, true_or, or_false, false_or, not_true_eq_false, and_false, false_and, not_false_eq_true, ne_eq, if_true, if_false, Bool.false_eq_true, Int.reduceEq, Int.reduceNeg, Int.reduceLE, Int.reduceLT]
    unfold op
    (repeat' split) <;> first | (exfalso; omega) | exact tup6 (by omega) (by omega) (by omega) (by omega) (by omega) (by omega)
/-- The first tick of a door that is turned round. -/
theorem cl_first {fl f n m j cmd : Int} (h : 2 ≤ fl ∧ fl ≤ 32) (hf : 0 ≤ f ∧ f ≤ fl - 1) (hn : 1 ≤ n ∧ n ≤ 10000) (hm : 1 ≤ m ∧ m ≤ 10000) (hj : 1 ≤ j ∧ j < n) (hc : cmd = 4 ∨ cmd = 5) :
    stp fl (op f n j) cmd m = cl f m 1 := by
  have hs := isSt_op h hf hn (j := j) (by omega)
  have e : op f n j = (f, f, 0, 0, 1, n - j) := by unfold op; rw [if_neg (by omega), if_pos hj.2]
  have h1 : ¬ cmd = 1 := by omega
  have h2 : ¬ cmd = 2 := by omega
  have h3 : ¬ cmd = 3 := by omega
  simp only [stp, hs, not_true_eq_false, if_false, clamp_of hm]
  rw [e]
  simp only [nextOf, aimOf, doorOf, h1, h2, h3, hc, and_true, true_and, or_true, true_or, or_false, false_or, not_true_eq_false, and_false, false_and, not_false_eq_true, ne_eq, if_true, if_false, Bool.false_eq_true, Int.reduceEq, Int.reduceNeg, Int.reduceLE, Int.reduceLT]
  unfold cl
  (repeat' split) <;> first | (exfalso; omega) | exact tup6 (by omega) (by omega) (by omega) (by omega) (by omega) (by omega)
theorem cl_step {fl f m j cmd : Int} (h : 2 ≤ fl ∧ fl ≤ 32) (hf : 0 ≤ f ∧ f ≤ fl - 1) (hm : 1 ≤ m ∧ m ≤ 10000) (hj : 1 ≤ j ∧ j < m) (hc : cmd = 4 ∨ cmd = 5) :
    stp fl (cl f m j) cmd m = cl f m (j + 1) := by
  have hs := isSt_cl h hf hm (j := j) (by omega)
  have e : cl f m j = (f, f, 0, 0, 2, m - j) := by unfold cl; rw [if_pos hj.2]
  have h1 : ¬ cmd = 1 := by omega
  have h2 : ¬ cmd = 2 := by omega
  have h3 : ¬ cmd = 3 := by omega
  simp only [stp, hs, not_true_eq_false, if_false, clamp_of hm]
  rw [e]
  simp only [nextOf, aimOf, doorOf, h1, h2, h3, hc, and_true, true_and, or_true, true_or, or_false, false_or, not_true_eq_false, and_false, false_and, not_false_eq_true, ne_eq, if_true, if_false, Bool.false_eq_true, Int.reduceEq, Int.reduceNeg, Int.reduceLE, Int.reduceLT]
  unfold cl
  (repeat' split) <;> first | (exfalso; omega) | exact tup6 (by omega) (by omega) (by omega) (by omega) (by omega) (by omega)

theorem law_reverses (x : Int × Int × Int × Int) (h : InR ct6.p x) : F6 x = true := by
  simp only [ct6, InR, Lit.wf, Bool.and_eq_true, decide_eq_true_eq] at h
  obtain ⟨x1, x2, x3, x4⟩ := x
  have hx1 : 0 ≤ x1 ∧ x1 ≤ 255 := h.1
  have hx2 : 0 ≤ x2 ∧ x2 ≤ 255 := h.2.1
  have hx3 : 0 ≤ x3 ∧ x3 ≤ 255 := h.2.2.1
  have hx4 : 0 ≤ x4 ∧ x4 ≤ 255 := h.2.2.2
  unfold F6
  simp only [K6_1]
  obtain ⟨n, hN⟩ : ∃ n, IntKind.i64.wrap ((2 : Int) + (IntKind.i64.wrap (Int.tmod x2 (20 : Int)))) = n := ⟨_, rfl⟩
  obtain ⟨m, hM⟩ : ∃ m, IntKind.i64.wrap ((1 : Int) + (IntKind.i64.wrap (Int.tmod x3 (20 : Int)))) = m := ⟨_, rfl⟩
  obtain ⟨q, hQ⟩ : ∃ q, IntKind.i64.wrap ((1 : Int) + (IntKind.i64.wrap (Int.tmod x4 (20 : Int)))) = q := ⟨_, rfl⟩
  obtain ⟨f, hF⟩ : ∃ f, IntKind.i64.wrap (Int.tmod x1 (9 : Int)) = f := ⟨_, rfl⟩
  have hn : 2 ≤ n ∧ n ≤ 21 := by rw [← hN]; simp only [tmod_ite, IntKind.wrap_i64]; omega
  have hm : 1 ≤ m ∧ m ≤ 20 := by rw [← hM]; simp only [tmod_ite, IntKind.wrap_i64]; omega
  have hf : 0 ≤ f ∧ f ≤ 8 := by rw [← hF]; simp only [tmod_ite, IntKind.wrap_i64]; omega
  simp only [hN, hM, hF]
  have hG : ∃ j, 1 ≤ j ∧ j ≤ n ∧ (G6_4 (n, x2, x3, x4) (1, F10 (9, F8 f, 3, n))).2 = op f n j := by
    have h0 : F10 (9, F8 f, 3, n) = op f n 1 := by
      rw [step_eq]
      exact op_step (j := 0) (by omega) (by omega) (by omega) (by omega)
    rw [h0]
    unfold G6_4
    refine loop_spec (k := ((n, x2, x3, x4) : Int × Int × Int × Int)) (step := st6_4) (fun x => 1 ≤ x.1 ∧ x.1 ≤ n ∧ x.2 = op f n x.1) (mu6_4 (n, x2, x3, x4)) (fun _ y => ∃ j, 1 ≤ j ∧ j ≤ n ∧ y.2 = op f n j) (fun x hx => ?_) _ (1, op f n 1) ⟨by show (1 : Int) ≤ 1; omega, by show (1 : Int) ≤ n; omega, rfl⟩ (Nat.lt_succ_self _)
    obtain ⟨k, s⟩ := x
    have hk : 1 ≤ k ∧ k ≤ n := ⟨hx.1, hx.2.1⟩
    have hs : s = op f n k := hx.2.2
    subst hs
    simp only [st6_4, hQ, step_eq, mu6_4]
    by_cases hc : k < n ∧ k < q
    · have h1 : (decide (k < n) && decide (k < q)) = true := by simpa using hc
      rw [h1]
      simp only [cond_true]
      rw [wrap_i64_of (by omega) (by omega), op_step (by omega) (by omega) (by omega) (by omega)]
      exact ⟨⟨by omega, by omega, rfl⟩, by omega⟩
    · have h1 : (decide (k < n) && decide (k < q)) = false := by rw [Bool.eq_false_iff]; simpa using hc
      rw [h1]
      exact ⟨k, hk.1, hk.2, rfl⟩
  obtain ⟨j, hj1, hj2, hj⟩ := hG
  rw [hj]
  by_cases hjn : j = n
  · have e : op f n j = (f, f, 0, 1, 0, 0) := by unfold op; rw [if_neg (by omega), if_neg (by omega)]
    rw [e]; exact sane_true
  · have e : op f n j = (f, f, 0, 0, 1, n - j) := by unfold op; rw [if_neg (by omega), if_pos (by omega)]
    have hd : ((op f n j).2.2.2.1 == (1 : Int)) = false := by rw [e]; rfl
    rw [hd]
    simp only [cond_false]
    have key := loop_spec (k := m) (step := st6_10) (fun x => 1 ≤ x.1 ∧ x.1 ≤ m + 1 ∧ x.2 = if x.1 = 1 then op f n j else cl f m (x.1 - 1)) (mu6_10 m) (fun o y => o = none ∧ y.2 = cl f m m) (fun x hx => ?_) _ (1, op f n j) ⟨by show (1 : Int) ≤ 1; omega, by show (1 : Int) ≤ m + 1; omega, by simp only [if_true]⟩ (Nat.lt_succ_self _)
    · have hR : R6_10 m (1, op f n j) = none := key.1
      have hG2 : (G6_10 m (1, op f n j)).2 = cl f m m := key.2
      have e2 : cl f m m = (f, f, 0, 2, 0, 0) := by unfold cl; rw [if_neg (by omega)]
      rw [hR, optR_none, hG2, e2]
      simp only [new_eq, beq_self_eq_true, Bool.and_self, sane_true]
    · obtain ⟨i, s⟩ := x
      have hi : 1 ≤ i ∧ i ≤ m + 1 := ⟨hx.1, hx.2.1⟩
      have hs : s = if i = 1 then op f n j else cl f m (i - 1) := hx.2.2
      simp only [st6_10, step_eq, mu6_10]
      have hcmd : nthT [(4 : Int), (5 : Int)] (Int.tmod i (2 : Int)) = 4 ∨ nthT [(4 : Int), (5 : Int)] (Int.tmod i (2 : Int)) = 5 := by
        have h2 : Int.tmod i 2 = 0 ∨ Int.tmod i 2 = 1 := by rw [tmod_ite]; omega
        rcases h2 with h2 | h2 <;> rw [h2]
        · exact Or.inl rfl
        · exact Or.inr rfl
      by_cases hc : i ≤ m
      · have hdoor : (s.2.2.2.1 == (2 : Int)) = false := by
          rw [hs]
          by_cases h1 : i = 1
          · rw [if_pos h1, e]; rfl
          · rw [if_neg h1]; unfold cl; rw [if_pos (by omega)]; rfl
        have hnext : stp 9 s (nthT [(4 : Int), (5 : Int)] (Int.tmod i (2 : Int))) m = cl f m i := by
          rw [hs]
          by_cases h1 : i = 1
          · rw [if_pos h1, h1]; rw [h1] at hcmd
            exact cl_first (by omega) (by omega) (by omega) (by omega) (by omega) hcmd
          · rw [if_neg h1]
            have := cl_step (fl := 9) (f := f) (m := m) (j := i - 1) (by omega) (by omega) (by omega) (by omega) hcmd
            rw [show i - 1 + 1 = i by omega] at this
            exact this
        simp only [hc, decide_true, cond_true, hdoor, cond_false, hnext]
        rw [wrap_i64_of (by omega) (by omega)]
        refine ⟨⟨by omega, by omega, ?_⟩, by omega⟩
        rw [if_neg (by omega), show i + 1 - 1 = i by omega]
      · simp only [hc, decide_false, cond_false]
        refine ⟨trivial, ?_⟩
        rw [hs, if_neg (by omega)]
        congr 1; omega
end Go.Proofs.Ytjdaplmlmmnokaa.Sp
