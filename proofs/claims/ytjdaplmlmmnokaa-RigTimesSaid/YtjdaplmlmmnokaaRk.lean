/- The laws of the drive (own work). -/
import Derived.Test.YtjdaplmlmmnokaaRj
import Derived.Test.YtjdaplmlmmnokaaTr
namespace Go.Proofs.Ytjdaplmlmmnokaa.Sp
open Go Sy
set_option linter.unusedVariables false
set_option linter.unusedSimpArgs false
theorem sane_true : F7 () = true := by kernel_rfl
theorem rstep' (fl : Int) (s : RigT) (cmd time : Int) : F11 (fl, s, cmd, time) = stp fl s cmd time := rstep_eq fl s cmd time
theorem stp_safe {fl : Int} {s : RigT} {cmd time : Int} (h : IsSt fl s) :
    IsSt fl (stp fl s cmd time) ∧ -1 ≤ (stp fl s cmd time).1 - s.1 ∧ (stp fl s cmd time).1 - s.1 ≤ 1 ∧ ((stp fl s cmd time).1 ≠ s.1 → s.2.2.2.1 = 2 ∧ (stp fl s cmd time).2.2.2.1 = 2) := by
  obtain ⟨f, t, l, d, a, n⟩ := s
  have h' := h
  simp only [IsSt] at h'
  have ct2 : 1 ≤ clampT time ∧ clampT time ≤ 10000 := by unfold clampT; omega
  simp only [stp, h, not_true_eq_false, if_false]
  generalize clampT time = tm at ct2
  simp only [moved, nextOf, doorOf, aimOf]
  (repeat' split) <;> (first | (exfalso; omega) | skip) <;> refine ⟨?_, ?_, ?_, ?_⟩ <;> (first | (simp only [IsSt, and_true, true_and, or_true, true_or, or_false, false_or, not_true_eq_false, and_false, false_and, not_false_eq_true, ne_eq, if_true, if_false, Bool.false_eq_true, Int.reduceEq, Int.reduceNeg, Int.reduceLE, Int.reduceLT]; omega) | (simp only []; omega) | omega | (intro hq; first | omega | (simp only [and_true, true_and, or_true, true_or, or_false, false_or, not_true_eq_false, and_false, false_and, not_false_eq_true, ne_eq, if_true, if_false, Bool.false_eq_true, Int.reduceEq, Int.reduceNeg, Int.reduceLE, Int.reduceLT] at hq) | trace_state))
theorem new_isSt {fl f : Int} (h : 2 ≤ fl ∧ fl ≤ 32) (hf : 0 ≤ f ∧ f ≤ fl - 1) : IsSt fl (f, f, 0, 2, 0, 0) := by
  simp only [IsSt, and_true, true_and, or_true, true_or, or_false, false_or, not_true_eq_false, and_false, false_and, not_false_eq_true, ne_eq, if_true, if_false, Bool.false_eq_true, Int.reduceEq, Int.reduceNeg, Int.reduceLE, Int.reduceLT]; omega
theorem new_eq (f : Int) : F8 f = (f, f, 0, 2, 0, 0) := rfl
theorem rnew_eq (f : Int) : F9 f = (f, f, 0, 2, 0, 0) := rfl
theorem floors_of (x : Int) : 2 ≤ IntKind.i64.wrap ((2 : Int) + (IntKind.i64.wrap (Int.tmod (IntKind.u64.wrap x) (31 : Int)))) ∧ IntKind.i64.wrap ((2 : Int) + (IntKind.i64.wrap (Int.tmod (IntKind.u64.wrap x) (31 : Int)))) ≤ 32 := by
  simp only [tmod_ite, IntKind.wrap_u64, IntKind.wrap_i64]; omega
theorem floors_u8 {x : Int} (h : 0 ≤ x ∧ x ≤ 255) : 2 ≤ IntKind.i64.wrap ((2 : Int) + (IntKind.i64.wrap (Int.tmod x (31 : Int)))) ∧ IntKind.i64.wrap ((2 : Int) + (IntKind.i64.wrap (Int.tmod x (31 : Int)))) ≤ 32 := by
  simp only [tmod_ite, IntKind.wrap_i64]; omega

theorem steps_inner {k : Int × (List (Int × Int)) × Int × Int × RigT × RigT} : R3_9 k (-1) = none := by
  unfold R3_9
  refine ret_none (fun _ => True) (fun x hx => ?_) _ _ trivial
  obtain ⟨k1, k2, k3, k4, k5, k6⟩ := k
  simp only [st3_9, step_eq, rstep', beq_self_eq_true, Bool.and_self, Bool.not_true, Bool.or_self, cond_false]
  cases decide (x < 7) <;> exact trivial
theorem law_steps (x : Int × RigT × List (Int × Int)) (h : InR ct3.p x) : F3 x = true := by
  obtain ⟨floors, s, l⟩ := x
  unfold F3
  have hfl := floors_of floors
  simp only []
  generalize IntKind.i64.wrap ((2 : Int) + (IntKind.i64.wrap (Int.tmod (IntKind.u64.wrap floors) (31 : Int)))) = n at hfl
  cases decide ((l.length : Int) > 100) with
  | true => exact sane_true
  | false =>
    simp only [cond_false]
    have hR : ∀ (x0 : Int × RigT × RigT), IsSt n x0.2.1 → x0.2.1 = x0.2.2 → R3_6 (floors, l, n, s) x0 = none := by
      intro x0 h1 h2
      unfold R3_6
      refine ret_none (fun x => IsSt n x.2.1 ∧ x.2.1 = x.2.2) (fun x hx => ?_) _ _ ⟨h1, h2⟩
      obtain ⟨i, a, b⟩ := x
      have h3 : IsSt n a := hx.1
      have h2' : a = b := hx.2
      subst h2'
      simp only [st3_6, K3_6_1, K3_6_2, K3_6_3, steps_inner, optR_none, step_eq, rstep', beq_self_eq_true, Bool.and_self, Bool.not_true, Bool.false_or, isstate_eq]
      have h4 := (stp_safe (cmd := IntKind.i64.wrap (Int.tmod (IntKind.u64.wrap ((nthT l i).1)) (6 : Int))) (time := IntKind.i64.wrap ((BitVec.ofInt IntKind.i64.bits ((nthT l i).2) &&& BitVec.ofInt IntKind.i64.bits (7 : Int)).toNat : Int)) h3).1
      have h5 : ∀ (z : RigT) (c : Bool), F13 (z, c) = F12 (z, c) := fun z c => rfl
      simp only [h4, h5, decide_true, beq_self_eq_true, Bool.and_self, Bool.not_true, Bool.or_self, cond_false]
      cases decide (i < (l.length : Int)) with
      | true => exact ⟨h4, rfl⟩
      | false => exact trivial
    have h6 : 0 ≤ Int.tdiv n 2 ∧ Int.tdiv n 2 ≤ n - 1 := by rw [tdiv_ite]; omega
    rw [wrap_i64_of (x := Int.tdiv n 2) (by omega) (by omega)]
    rw [hR _ (new_isSt hfl h6) rfl, optR_none]
    have h7 : ∀ fl (z : RigT), F15 (fl, z) = decide (IsSt fl z) := fun fl z => risstate_eq fl z
    simp only [isstate_eq, h7, new_eq, rnew_eq, beq_self_eq_true, Bool.and_self, sane_true]
theorem law_safe (x : Int × List (Int × Int)) (h : InR ct5.p x) : F5 x = true := by
  obtain ⟨floors, l⟩ := x
  unfold F5
  have hfl : 0 ≤ floors ∧ floors ≤ 255 := by
    have := h.1
    simp only [ct5, InR, Lit.wf, Bool.and_eq_true, decide_eq_true_eq] at this
    exact this
  have hfl := floors_u8 hfl
  simp only []
  generalize IntKind.i64.wrap ((2 : Int) + (IntKind.i64.wrap (Int.tmod floors (31 : Int)))) = n at hfl
  cases decide ((l.length : Int) > 300) with
  | true => exact sane_true
  | false =>
    simp only [cond_false]
    have hR : R5_6 (l, n) (0, F8 0) = none := by
      unfold R5_6
      refine ret_none (fun x => IsSt n x.2) (fun x hx => ?_) _ _ (new_isSt hfl (by omega))
      obtain ⟨i, s⟩ := x
      have h3 : IsSt n s := hx
      obtain ⟨c, t⟩ := nthT l i
      simp only [st5_6, step_eq]
      have h4 := stp_safe (cmd := (nthT l i).1) (time := (nthT l i).2) h3
      have e0 : F10 (n, s, nthT l i) = stp n s (nthT l i).1 (nthT l i).2 := step_eq n s _ _
      rw [e0]
      generalize stp n s (nthT l i).1 (nthT l i).2 = q at h4
      have h5 := h4.1
      have h6 := h3
      simp only [IsSt] at h5 h6
      rw [wrap_i64_of (x := q.1 - s.1) (by omega) (by omega), wrap_i64_of (x := s.1 - q.1) (by omega) (by omega)]
      cases decide (i < (l.length : Int)) with
      | false => exact trivial
      | true =>
        simp only [cond_true]
        have hc : (((((((decide (q.1 < (0 : Int))) || (decide (q.1 ≥ n))) || (decide (q.1 - s.1 > (1 : Int)))) || (decide (s.1 - q.1 > (1 : Int)))) || ((q.1 != s.1) && ((s.2.2.2.1 != (2 : Int)) || (q.2.2.2.1 != (2 : Int))))) || ((decide (q.2.2.1 > (0 : Int))) && (q.2.2.2.1 != (2 : Int))))) = false := by
          rw [Bool.eq_false_iff]
          intro hh
          simp only [Bool.or_eq_true, Bool.and_eq_true, decide_eq_true_eq, bne_iff_ne] at hh
          omega
        rw [hc]
        exact h4.1
    rw [hR, optR_none]; exact sane_true
end Go.Proofs.Ytjdaplmlmmnokaa.Sp
