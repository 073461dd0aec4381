/- A door that is played ends (own work). -/
import Derived.Test.YtkanaakceokifaaD4
import Derived.Test.YtkanaakceokifaaSl
import Derived.Test.YtkanaakceokifaaTr
namespace Go.Proofs.Ytkanaakceokifaa.Sp
open Go Sy
set_option linter.unusedVariables false
set_option linter.unusedSimpArgs false
abbrev DsT := Int × Int × Int × Bool × Int
abbrev CarD := Int × Int × Int × Int × Int × Int × Int × Int × Int
/-- A tick of the door in a stage that is not idle. -/
def dstep (dw ho : Int) (s : DsT) (door : Int) (block : Bool) : DsT × Int :=
  let si := if s.2.2.1 ≠ 0 then s.2.2.1 + 1 else 0
  if s.1 = 1 ∧ door = 1 then ((2, 0, max si 1, s.2.2.2), 0)
  else if s.1 = 3 ∧ door = 2 then ((0, 0, 0, false, 0), 0)
  else if s.1 = 3 ∧ si > ho ∧ s.2.2.2.1 = true then ((3, s.2.1 + 1, si, s.2.2.2), 5)
  else if si > ho then ((3, 0, si, true, s.2.2.2.2), 5)
  else if s.1 = 1 then ((1, s.2.1 + 1, si, s.2.2.2), 3)
  else if s.1 = 2 then (if s.2.1 + 1 ≥ dw ∧ block = false then ((3, 0, si, s.2.2.2), 4) else ((2, s.2.1 + 1, si, s.2.2.2), 0))
  else if block = true then ((1, 0, si, s.2.2.2.1, s.2.2.2.2 + 1), 3)
  else ((3, s.2.1 + 1, si, s.2.2.2), 4)
theorem more_eq {n : Int} (h : 0 ≤ n ∧ n ≤ 5000) : F49 n = n + 1 := by
  unfold F49
  rw [wrap_i64_of (by omega) (by omega)]; omega
theorem dstep_eq (c : CarD) (s : DsT) (door : Int) (block : Bool) (hs : 1 ≤ s.1 ∧ s.1 ≤ 3) (ht : 0 ≤ s.2.1 ∧ s.2.1 ≤ 5000) (hi : 0 ≤ s.2.2.1 ∧ s.2.2.1 ≤ 4000) (hc : 0 ≤ s.2.2.2.2 ∧ s.2.2.2.2 ≤ 5000) :
    F24 (c, s, door, block, false) = dstep c.2.2.2.2.2.2.1 c.2.2.2.2.2.2.2.1 s door block := by
  obtain ⟨st, tm, si, nu, cy⟩ := s
  simp only [] at hs ht hi hc
  have hS : F31 (st, tm, si, nu, cy) = true := by
    unfold F31 F54
    have e : (st == 0) = false := by simp; omega
    simp only [e, cond_false, Bool.and_eq_true, decide_eq_true_eq]
    omega
  have hC : F45 (st, tm, si, nu, cy) = (st, tm, (if si ≠ 0 then si + 1 else 0), nu, cy) := by
    unfold F45
    by_cases h0 : si = 0
    · simp [h0]
    · simp only [bne_iff_ne, ne_eq, h0, not_false_eq_true, if_true, Bool.cond_eq_ite]
      rw [more_eq (by omega)]
  unfold F24
  have e : (st == 0) = false := by simp; omega
  simp only [hS, Bool.not_true, cond_false, e, hC]
  have hsi : 0 ≤ (if si ≠ 0 then si + 1 else 0) ∧ (if si ≠ 0 then si + 1 else 0) ≤ 4001 := by split <;> omega
  unfold dstep
  simp only []
  generalize (if si ≠ 0 then si + 1 else 0) = sj at hsi
  simp only [F47, F48, F46, more_eq ht, more_eq hc, wrap_i64_of (x := tm + 1) (by omega) (by omega), Bool.cond_eq_ite, Bool.and_eq_true, beq_iff_eq, decide_eq_true_eq, Bool.not_eq_true']
  (repeat' split) <;> first | rfl | (exfalso; omega) | (exfalso; simp_all; done) | rw [show st = 1 by omega] | rw [show st = 2 by omega] | rw [show st = 3 by omega]
end Go.Proofs.Ytkanaakceokifaa.Sp
