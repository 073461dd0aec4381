/- Contracts of package door (layer 12). -/
import Derived.Test.YtkanaakceokifaaProg
import Derived.Test.YtkanaakceokifaaRg
namespace Go.Proofs.Ytkanaakceokifaa.Do
open Go.RowKit Go.Proofs.Ytkanaakceokifaa
set_option linter.unusedSimpArgs false
set_option linter.unusedVariables false

/-- A state of the door control. -/
structure D where
  st : Int
  tm : Int
  si : Int
  nu : Bool
  cy : Int
def cnt (n : Int) : Bool := decide (0 ≤ n ∧ n ≤ 1000000)
def mo (n : Int) : Int := min (n + 1) 1000000
def zero : D := ⟨0, 0, 0, false, 0⟩
def isD (s : D) : Bool := decide (s.st = 0 ∧ s.tm = 0 ∧ s.si = 0 ∧ s.nu = false ∧ s.cy = 0 ∨ 1 ≤ s.st ∧ s.st ≤ 3 ∧ cnt s.tm = true ∧ cnt s.si = true ∧ cnt s.cy = true)
def ctd (s : D) : D := if s.si ≠ 0 then ⟨s.st, s.tm, mo s.si, s.nu, s.cy⟩ else s
abbrev dv (s : D) : Value := .agg #[.int .i64 s.st, .int .i64 s.tm, .int .i64 s.si, .bool s.nu, .int .i64 s.cy]

theorem isCount_any (n : Int) (w : World) : Calls Try.prog 54 #[.int .i64 n] w fun e w' => e = .returned (.bool (cnt n)) ∧ w = w' := by
  go_enter Try.func54, Try.ntmps54
  go_wp2
  all_goals (go_ret; refine ⟨ret_iff ?_, rfl⟩; (try simp only [beq_iff_eq, beq_eq_false_iff_ne, bne_iff_ne, bne_eq_false_iff_eq, ne_eq, Bool.not_eq_true, Bool.not_eq_true', Bool.not_eq_false', Bool.not_eq_false, Bool.false_eq_true, Bool.true_eq_false, false_iff, true_iff, decide_eq_true_eq, decide_eq_false_iff_not, Bool.and_eq_true, Bool.or_eq_true, Bool.and_eq_false_iff, Bool.or_eq_false_iff] at *); omega)

theorem more_any (n : Int) (h0 : 0 ≤ n) (h1 : n ≤ 1000000) (w : World) : Calls Try.prog 49 #[.int .i64 n] w fun e w' => e = .returned (.int .i64 (mo n)) ∧ w = w' := by
  go_enter Try.func49, Try.ntmps49
  go_wp2
  all_goals (go_ret; refine ⟨ret_int ?_, rfl⟩; unfold mo; omega)

set_option maxHeartbeats 800000 in
theorem isState_any (a b c : Int) (d : Bool) (e' : Int) (w : World) :
    Calls Try.prog 31 #[.agg #[.int .i64 a, .int .i64 b, .int .i64 c, .bool d, .int .i64 e']] w fun e w' => e = .returned (.bool (isD ⟨a, b, c, d, e'⟩)) ∧ Below w.heap.size w w' := by
  go_enter Try.func31, Try.ntmps31
  go_wp2_with ((go_at_call 54; refine (isCount_any _ _).mono ?_; rintro e w' ⟨rfl, rfl⟩))
  all_goals go_ret
  all_goals refine ⟨ret_bool ?_, by (repeat' (first | with_reducible exact Below.refl _ _ | with_reducible assumption | with_reducible refine below_ext ?_ ?_ _ | with_reducible refine Below.alloc ?_ ?_ _ | with_reducible refine Below.drew ?_ | with_reducible exact Nat.le_refl _ | (simp only [World.size_alloc, World.size_setCell, World.size_drew, size_ext]; omega) | (simp; omega)))⟩
  all_goals (simp only [cnt, isD, beq_iff_eq, beq_eq_false_iff_ne, bne_iff_ne, bne_eq_false_iff_eq, ne_eq, Bool.not_eq_true, Bool.not_eq_true', Bool.not_eq_false', Bool.not_eq_false, Bool.false_eq_true, Bool.true_eq_false, false_iff, true_iff, decide_eq_true_eq, decide_eq_false_iff_not, Bool.and_eq_true, Bool.or_eq_true, Bool.and_eq_false_iff, Bool.or_eq_false_iff] at *; (try rw [eq_comm]); (try rw [decide_eq_decide]); (try simp only [decide_eq_true_eq, decide_eq_false_iff_not]); first | omega | (simp_all; done) | (simp_all; omega))

def skD (s : D) : D := if isD s = true ∧ s.st ≠ 0 then ⟨s.st, mo s.tm, (ctd s).si, s.nu, s.cy⟩ else s
def lateD (travel : Int) (s : D) : Bool := (decide (s.st = 1) || decide (s.st = 3)) && decide (travel < s.tm)
theorem counted_any (a b c : Int) (d : Bool) (e' : Int) (h0 : 0 ≤ c) (h1 : c ≤ 1000000) (w : World) :
    Calls Try.prog 45 #[.agg #[.int .i64 a, .int .i64 b, .int .i64 c, .bool d, .int .i64 e']] w fun e w' => e = .returned (.agg #[.int .i64 a, .int .i64 b, .int .i64 (if c ≠ 0 then mo c else c), .bool d, .int .i64 e']) ∧ Below w.heap.size w w' := by
  by_cases h : c = 0
  · subst h
    go_enter Try.func45, Try.ntmps45
    go_wp2
    go_returns
    exact ⟨rfl, by (repeat' (first | with_reducible exact Below.refl _ _ | with_reducible assumption | with_reducible refine below_ext ?_ ?_ _ | with_reducible refine Below.alloc ?_ ?_ _ | with_reducible refine Below.drew ?_ | with_reducible exact Nat.le_refl _ | (simp only [World.size_alloc, World.size_setCell, World.size_drew, size_ext]; omega) | (simp; omega)))⟩
  · have h' : (c != 0) = true := by simpa using h
    go_enter Try.func45, Try.ntmps45
    go_wp2_with ((go_at_call 49; refine (more_any _ h0 h1 _).mono ?_; rintro e w' ⟨rfl, rfl⟩))
    go_returns
    exact ⟨by simp [h], by (repeat' (first | with_reducible exact Below.refl _ _ | with_reducible assumption | with_reducible refine below_ext ?_ ?_ _ | with_reducible refine Below.alloc ?_ ?_ _ | with_reducible refine Below.drew ?_ | with_reducible exact Nat.le_refl _ | (simp only [World.size_alloc, World.size_setCell, World.size_drew, size_ext]; omega) | (simp; omega)))⟩
theorem enter_any (a b c : Int) (d : Bool) (e' x : Int) (w : World) :
    Calls Try.prog 46 #[.agg #[.int .i64 a, .int .i64 b, .int .i64 c, .bool d, .int .i64 e'], .int .i64 x] w fun e w' => e = .returned (.agg #[.int .i64 x, .int .i64 0, .int .i64 c, .bool d, .int .i64 e']) ∧ Below w.heap.size w w' := by
  go_enter Try.func46, Try.ntmps46
  go_wp2
  go_returns
  exact ⟨rfl, by (repeat' (first | with_reducible exact Below.refl _ _ | with_reducible assumption | with_reducible refine below_ext ?_ ?_ _ | with_reducible refine Below.alloc ?_ ?_ _ | with_reducible refine Below.drew ?_ | with_reducible exact Nat.le_refl _ | (simp only [World.size_alloc, World.size_setCell, World.size_drew, size_ext]; omega) | (simp; omega)))⟩
theorem nudge_any (a b c : Int) (d : Bool) (e' : Int) (w : World) :
    Calls Try.prog 48 #[.agg #[.int .i64 a, .int .i64 b, .int .i64 c, .bool d, .int .i64 e']] w fun e w' => e = .returned (.tuple #[.agg #[.int .i64 3, .int .i64 0, .int .i64 c, .bool true, .int .i64 e'], .int .i64 5]) ∧ Below w.heap.size w w' := by
  go_enter Try.func48, Try.ntmps48
  go_wp2_with ((go_at_call 46; refine (enter_any _ _ _ _ _ _ _).mono ?_; rintro e w' ⟨rfl, hb⟩; obtain ⟨g, rfl⟩ := ext_of hb; clear hb))
  go_returns
  exact ⟨rfl, by (repeat' (first | with_reducible exact Below.refl _ _ | with_reducible assumption | with_reducible refine below_ext ?_ ?_ _ | with_reducible refine Below.alloc ?_ ?_ _ | with_reducible refine Below.drew ?_ | with_reducible exact Nat.le_refl _ | (simp only [World.size_alloc, World.size_setCell, World.size_drew, size_ext]; omega) | (simp; omega)))⟩
theorem stay_any (a b c : Int) (d : Bool) (e' x : Int) (h0 : 0 ≤ b) (h1 : b ≤ 1000000) (w : World) :
    Calls Try.prog 47 #[.agg #[.int .i64 a, .int .i64 b, .int .i64 c, .bool d, .int .i64 e'], .int .i64 x] w fun e w' => e = .returned (.tuple #[.agg #[.int .i64 a, .int .i64 (mo b), .int .i64 c, .bool d, .int .i64 e'], .int .i64 x]) ∧ Below w.heap.size w w' := by
  go_enter Try.func47, Try.ntmps47
  go_wp2_with ((go_at_call 49; refine (more_any _ h0 h1 _).mono ?_; rintro e w' ⟨rfl, rfl⟩))
  go_returns
  exact ⟨rfl, by (repeat' (first | with_reducible exact Below.refl _ _ | with_reducible assumption | with_reducible refine below_ext ?_ ?_ _ | with_reducible refine Below.alloc ?_ ?_ _ | with_reducible refine Below.drew ?_ | with_reducible exact Nat.le_refl _ | (simp only [World.size_alloc, World.size_setCell, World.size_drew, size_ext]; omega) | (simp; omega)))⟩
theorem late_any (ca cb cc cd ce cf cg ch ci a b c : Int) (d : Bool) (e' : Int) (w : World) :
    Calls Try.prog 26 #[.agg #[.int .i64 ca, .int .i64 cb, .int .i64 cc, .int .i64 cd, .int .i64 ce, .int .i64 cf, .int .i64 cg, .int .i64 ch, .int .i64 ci], .agg #[.int .i64 a, .int .i64 b, .int .i64 c, .bool d, .int .i64 e']] w fun e w' => e = .returned (.bool (lateD cf ⟨a, b, c, d, e'⟩)) ∧ Below w.heap.size w w' := by
  go_enter Try.func26, Try.ntmps26
  go_wp2
  all_goals go_ret
  all_goals refine ⟨ret_bool ?_, by (repeat' (first | with_reducible exact Below.refl _ _ | with_reducible assumption | with_reducible refine below_ext ?_ ?_ _ | with_reducible refine Below.alloc ?_ ?_ _ | with_reducible refine Below.drew ?_ | with_reducible exact Nat.le_refl _ | (simp only [World.size_alloc, World.size_setCell, World.size_drew, size_ext]; omega) | (simp; omega)))⟩
  all_goals (simp only [lateD, beq_iff_eq, beq_eq_false_iff_ne, bne_iff_ne, bne_eq_false_iff_eq, ne_eq, Bool.not_eq_true, Bool.not_eq_true', Bool.not_eq_false', Bool.not_eq_false, Bool.false_eq_true, Bool.true_eq_false, false_iff, true_iff, decide_eq_true_eq, decide_eq_false_iff_not, Bool.and_eq_true, Bool.or_eq_true, Bool.and_eq_false_iff, Bool.or_eq_false_iff] at *; simp [*]; try omega)

/-- A tick of a state that is not idle, Since already counted. -/
def coreD (dw ho : Int) (s : D) (door : Int) (bl : Bool) : D × Int :=
  if s.st = 1 ∧ door = 1 then (⟨2, 0, max s.si 1, s.nu, s.cy⟩, 0)
  else if s.st = 3 ∧ door = 2 then (zero, 0)
  else if ho < s.si then (if s.st = 3 ∧ s.nu = true then (⟨3, mo s.tm, s.si, true, s.cy⟩, 5) else (⟨3, 0, s.si, true, s.cy⟩, 5))
  else if s.st = 1 then (⟨1, mo s.tm, s.si, s.nu, s.cy⟩, 3)
  else if s.st = 2 then (if dw ≤ s.tm + 1 ∧ bl = false then (⟨3, 0, s.si, s.nu, s.cy⟩, 4) else (⟨2, mo s.tm, s.si, s.nu, s.cy⟩, 0))
  else if bl = true then (⟨1, 0, s.si, s.nu, mo s.cy⟩, 3)
  else (⟨3, mo s.tm, s.si, s.nu, s.cy⟩, 4)
def stepD (dw ho : Int) (s : D) (door : Int) (bl want : Bool) : D × Int :=
  if isD s = true ∧ s.st ≠ 0 then coreD dw ho (ctd s) door bl
  else if want = true then (⟨1, 0, 0, false, 0⟩, 3) else (zero, 0)
abbrev rv (r : D × Int) : Value := .tuple #[dv r.1, .int .i64 r.2]

theorem counted_eq {a b c : Int} {d : Bool} {e' c1 : Int} (h0 : 0 ≤ c) (h1 : c ≤ 1000000) (h : (ctd ⟨a, b, c, d, e'⟩).si = c1) (w : World) :
    Calls Try.prog 45 #[.agg #[.int .i64 a, .int .i64 b, .int .i64 c, .bool d, .int .i64 e']] w fun e w' => e = .returned (.agg #[.int .i64 a, .int .i64 b, .int .i64 c1, .bool d, .int .i64 e']) ∧ Below w.heap.size w w' := by
  have h' : (if c ≠ 0 then mo c else c) = c1 := by rw [← h]; unfold ctd; by_cases hc : c = 0 <;> simp [hc]
  rw [← h']
  exact counted_any _ _ _ _ _ h0 h1 _

theorem isD_bd {a b c : Int} {d : Bool} {e' : Int} (h : isD ⟨a, b, c, d, e'⟩ = true) (h0 : a ≠ 0) : 1 ≤ a ∧ a ≤ 3 ∧ 0 ≤ b ∧ b ≤ 1000000 ∧ 0 ≤ c ∧ c ≤ 1000000 ∧ 0 ≤ e' ∧ e' ≤ 1000000 := by
  simp [isD, cnt, h0] at h; omega
theorem ctd_bd {a b c : Int} {d : Bool} {e' : Int} (h0 : 0 ≤ c) (h1 : c ≤ 1000000) : 0 ≤ (ctd ⟨a, b, c, d, e'⟩).si ∧ (ctd ⟨a, b, c, d, e'⟩).si ≤ 1000000 ∧ ctd ⟨a, b, c, d, e'⟩ = ⟨a, b, (ctd ⟨a, b, c, d, e'⟩).si, d, e'⟩ := by
  unfold ctd mo; split <;> simp <;> omega
end Go.Proofs.Ytkanaakceokifaa.Do
