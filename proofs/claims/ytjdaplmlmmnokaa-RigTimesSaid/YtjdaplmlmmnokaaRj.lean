/- What a drive does in a tick, for the reference (own work). -/
import Derived.Test.YtjdaplmlmmnokaaRi
namespace Go.Proofs.Ytjdaplmlmmnokaa.Sp
open Go Sy
set_option linter.unusedVariables false
set_option linter.unusedSimpArgs false
theorem tup6 {a b c d e f a' b' c' d' e' f' : Int} (h1 : a = a') (h2 : b = b') (h3 : c = c') (h4 : d = d') (h5 : e = e') (h6 : f = f') : (a, b, c, d, e, f) = (a', b', c', d', e', f') := by subst h1 h2 h3 h4 h5 h6; rfl
theorem rarrive_eq (s : RigT) : F25 s = moved s := by
  simp only [F25, moved, Bool.cond_eq_ite, beq_iff_eq]
set_option maxHeartbeats 2000000 in
theorem rstep_eq (fl : Int) (s : RigT) (cmd time : Int) : F22 (fl, s, cmd, time) = stp fl s cmd time := by
  unfold F22 stp
  simp only [risstate_eq]
  by_cases h : IsSt fl s
  · obtain ⟨f, t, l, d, a, n⟩ := s
    have h' := h
    simp only [IsSt] at h'
    simp only [h, decide_true, not_true, if_false, Bool.not_true, cond_false]
    have ct : max 1 (min time 10000) = clampT time := by unfold clampT; omega
    have ct2 : 1 ≤ clampT time ∧ clampT time ≤ 10000 := by unfold clampT; omega
    simp only [ct]
    generalize clampT time = tm at ct2
    simp (disch := omega) only [wrap_i64_of, rarrive_eq, F26]
    by_cases c1 : cmd = 1
    · subst c1
      simp only [Int.reduceBEq, false_or, or_false, not_true_eq_false, and_false, false_and, Bool.false_eq_true, and_true, true_and, cond_true, cond_false, Bool.or_false, Bool.false_or, nextOf, aimOf, doorOf, Bool.cond_eq_ite, Int.reduceEq, if_true, if_false, or_self, Bool.or_eq_true, Bool.and_eq_true, Bool.not_eq_true', Bool.and_eq_false_iff, decide_eq_true_eq, decide_eq_false_iff_not, beq_iff_eq, bne_iff_ne, ne_eq]
      (repeat' split) <;> first | rfl | omega | exact tup6 (by omega) (by omega) (by omega) (by omega) (by omega) (by omega) | exact congrArg moved (tup6 (by omega) (by omega) (by omega) (by omega) (by omega) (by omega))
    by_cases c2 : cmd = 2
    · subst c2
      simp only [Int.reduceBEq, false_or, or_false, not_true_eq_false, and_false, false_and, Bool.false_eq_true, and_true, true_and, cond_true, cond_false, Bool.or_false, Bool.false_or, nextOf, aimOf, doorOf, Bool.cond_eq_ite, Int.reduceEq, if_true, if_false, or_self, Bool.or_eq_true, Bool.and_eq_true, Bool.not_eq_true', Bool.and_eq_false_iff, decide_eq_true_eq, decide_eq_false_iff_not, beq_iff_eq, bne_iff_ne, ne_eq]
      (repeat' split) <;> first | rfl | omega | exact tup6 (by omega) (by omega) (by omega) (by omega) (by omega) (by omega) | exact congrArg moved (tup6 (by omega) (by omega) (by omega) (by omega) (by omega) (by omega))
    by_cases c3 : cmd = 3
    · subst c3
      simp only [Int.reduceBEq, false_or, or_false, not_true_eq_false, and_false, false_and, Bool.false_eq_true, and_true, true_and, cond_true, cond_false, Bool.or_false, Bool.false_or, nextOf, aimOf, doorOf, Bool.cond_eq_ite, Int.reduceEq, if_true, if_false, or_self, Bool.or_eq_true, Bool.and_eq_true, Bool.not_eq_true', Bool.and_eq_false_iff, decide_eq_true_eq, decide_eq_false_iff_not, beq_iff_eq, bne_iff_ne, ne_eq]
      (repeat' split) <;> first | rfl | omega | exact tup6 (by omega) (by omega) (by omega) (by omega) (by omega) (by omega) | exact congrArg moved (tup6 (by omega) (by omega) (by omega) (by omega) (by omega) (by omega))
    by_cases c4 : cmd = 4 ∨ cmd = 5
    · have e1 : (cmd == 1) = false := by simp; omega
      have e2 : (cmd == 2) = false := by simp; omega
      have e3 : (cmd == 3) = false := by simp; omega
      have e4 : ((cmd == 4) || (cmd == 5)) = true := by simp; omega
      simp only [e1, e2, e3, e4, c1, c2, c3, c4, Int.reduceBEq, false_or, or_false, not_true_eq_false, and_false, false_and, Bool.false_eq_true, and_true, true_and, cond_true, cond_false, Bool.or_false, Bool.false_or, nextOf, aimOf, doorOf, Bool.cond_eq_ite, Int.reduceEq, if_true, if_false, or_self, Bool.or_eq_true, Bool.and_eq_true, Bool.not_eq_true', Bool.and_eq_false_iff, decide_eq_true_eq, decide_eq_false_iff_not, beq_iff_eq, bne_iff_ne, ne_eq]
      (repeat' split) <;> first | rfl | omega | exact tup6 (by omega) (by omega) (by omega) (by omega) (by omega) (by omega) | exact congrArg moved (tup6 (by omega) (by omega) (by omega) (by omega) (by omega) (by omega))
    · have e1 : (cmd == 1) = false := by simp; omega
      have e2 : (cmd == 2) = false := by simp; omega
      have e3 : (cmd == 3) = false := by simp; omega
      have e4 : ((cmd == 4) || (cmd == 5)) = false := by simp; omega
      simp only [e1, e2, e3, e4, c1, c2, c3, c4, Int.reduceBEq, false_or, or_false, not_true_eq_false, and_false, false_and, Bool.false_eq_true, and_true, true_and, cond_true, cond_false, Bool.or_false, Bool.false_or, nextOf, aimOf, doorOf, Bool.cond_eq_ite, Int.reduceEq, if_true, if_false, or_self, Bool.or_eq_true, Bool.and_eq_true, Bool.not_eq_true', Bool.and_eq_false_iff, decide_eq_true_eq, decide_eq_false_iff_not, beq_iff_eq, bne_iff_ne, ne_eq]
      (repeat' split) <;> first | rfl | omega | exact tup6 (by omega) (by omega) (by omega) (by omega) (by omega) (by omega) | exact congrArg moved (tup6 (by omega) (by omega) (by omega) (by omega) (by omega) (by omega))
  · simp [h]; rfl
end Go.Proofs.Ytjdaplmlmmnokaa.Sp
