/- Collective: a hall call that stays is shown before the third turn (own work, written by gen_col_h.py). -/
import Derived.Test.YtidnlehjabhclaaDoorCf
namespace Go.Proofs.YtidnlehjabhclaaDoor.Sp
open Go Sy
set_option linter.unusedVariables false
set_option linter.unusedSimpArgs false
set_option maxRecDepth 10000

abbrev KS := List (Int × Int × Int) × Int × Int × Int
abbrev XS := Int × Int × Int × Int × Int × Int × (Int × Int) × Int × Int × Int
def tX (k : KS) (C : Int × Int × Int) (N : Int × Int) (f last turns moves opens i car : Int) (hall : Int × Int) : BOut KS XS Bool :=
  bif C.1 == 3 then
    (bif (f == k.2.2.1) && (C.2.2 == k.2.2.2) then BOut.ret (decide (turns ≤ 2) && F11 ())
     else bif (((decide (f < 0) || decide (f ≥ k.2.1)) || decide (turns > 2)) || decide (moves > IntKind.i64.wrap (3 * k.2.1))) || decide (IntKind.i64.wrap (opens + 1) > 4) then BOut.ret false
     else BOut.next k (f, last, turns, moves, IntKind.i64.wrap (opens + 1), IntKind.i64.wrap (i + 1), N, nand32 car (shl32 1 (IntKind.u64.wrap f)), F15 (hall, F13 (f, C.2.2))))
  else bif C.1 == 1 then
    (bif (((decide (IntKind.i64.wrap (f + 1) < 0) || decide (IntKind.i64.wrap (f + 1) ≥ k.2.1)) || decide (turns > 2)) || decide (IntKind.i64.wrap (moves + 1) > IntKind.i64.wrap (3 * k.2.1))) || decide ((0 : Int) > 4) then BOut.ret false
     else BOut.next k (IntKind.i64.wrap (f + 1), last, turns, IntKind.i64.wrap (moves + 1), 0, IntKind.i64.wrap (i + 1), N, car, hall))
  else bif C.1 == 2 then
    (bif (((decide (IntKind.i64.wrap (f - 1) < 0) || decide (IntKind.i64.wrap (f - 1) ≥ k.2.1)) || decide (turns > 2)) || decide (IntKind.i64.wrap (moves + 1) > IntKind.i64.wrap (3 * k.2.1))) || decide ((0 : Int) > 4) then BOut.ret false
     else BOut.next k (IntKind.i64.wrap (f - 1), last, turns, IntKind.i64.wrap (moves + 1), 0, IntKind.i64.wrap (i + 1), N, car, hall))
  else BOut.ret false
def tR (k : KS) (C : Int × Int × Int) (N : Int × Int) (f last turns moves opens i car : Int) (hall : Int × Int) : BOut KS XS Bool :=
  bif (C.1 == 1) || (C.1 == 2) then
    (bif (last != 0) && (last != C.1) then tX k C N f C.1 (IntKind.i64.wrap (turns + 1)) moves opens i car hall else tX k C N f C.1 turns moves opens i car hall)
  else tX k C N f last turns moves opens i car hall
theorem round_serves (l : List (Int × Int × Int)) (n g e f last turns moves opens i : Int) (w : Int × Int) (car : Int) (hall : Int × Int) :
    st5_10 (l, n, g, e) (f, last, turns, moves, opens, i, w, car, hall) =
      bif decide (i < 400) then
        (bif decide (i < (l.length : Int)) then
          tR (l, n, g, e) (F9 (n, w, f, or32 car (nthT l i).1, F12 (F12 (hall, (nthT l i).2), F13 (g, e)))) (F14 (n, w, f, or32 car (nthT l i).1, F12 (F12 (hall, (nthT l i).2), F13 (g, e)))) f last turns moves opens i (or32 car (nthT l i).1) (F12 (F12 (hall, (nthT l i).2), F13 (g, e)))
        else tR (l, n, g, e) (F9 (n, w, f, car, F12 (hall, F13 (g, e)))) (F14 (n, w, f, car, F12 (hall, F13 (g, e)))) f last turns moves opens i car (F12 (hall, F13 (g, e))))
      else BOut.brk (l, n, g, e) (f, last, turns, moves, opens, i, w, car, hall) := rfl
def Good {K X : Type} (P : X → Prop) (b : BOut K X Bool) : Prop := match b with | .next _ y => P y | .brk _ _ => False | .ret r => r = true
theorem ret_good {K X : Type} {step : K → X → BOut K X Bool} {k : K} (I : X → Prop) (mu : X → Nat) (h : ∀ x, I x → Good (fun y => I y ∧ mu y < mu x) (step k x)) (m : Nat) (x : X) (hx : I x) (hm : mu x < m) : retOf step k m x = some true := by
  refine loop_spec I mu (fun o _ => o = some true) (fun x hx => ?_) m x hx hm
  have := h x hx
  cases hs : step k x with
  | next k' y => rw [hs] at this; exact this
  | brk k' y => rw [hs] at this; exact this.elim
  | ret r => rw [hs] at this; exact congrArg some this
section
variable {l : List (Int × Int × Int)} {n g e f last turns moves opens i car : Int} {N : Int × Int} {hall : Int × Int} {P : XS → Prop}
theorem tr1 (hf : 0 ≤ f ∧ f + 1 < n) (hn : n ≤ 10) (ht : 0 ≤ turns ∧ turns ≤ 2) (hm : 0 ≤ moves ∧ moves + 1 ≤ 3 * n) (hi : 0 ≤ i ∧ i < 400) (hl : 0 ≤ last ∧ last ≤ 2)
    (h1 : last = 2 → turns ≤ 1 ∧ P (f + 1, 1, turns + 1, moves + 1, 0, i + 1, N, car, hall)) (h2 : last ≠ 2 → P (f + 1, 1, turns, moves + 1, 0, i + 1, N, car, hall)) :
    Good P (tR (l, n, g, e) (1, 1, 0) N f last turns moves opens i car hall) := by
  have e1 : IntKind.i64.wrap (f + 1) = f + 1 := wrap_i64_of (by omega) (by omega)
  have e2 : IntKind.i64.wrap (turns + 1) = turns + 1 := wrap_i64_of (by omega) (by omega)
  have e3 : IntKind.i64.wrap (moves + 1) = moves + 1 := wrap_i64_of (by omega) (by omega)
  have e4 : IntKind.i64.wrap (i + 1) = i + 1 := wrap_i64_of (by omega) (by omega)
  have e5 : IntKind.i64.wrap (3 * n) = 3 * n := wrap_i64_of (by omega) (by omega)
  have g1 : decide (f + 1 < 0) = false := by simp; omega
  have g2 : decide (f + 1 ≥ n) = false := by simp; omega
  have g3 : decide (moves + 1 > 3 * n) = false := by simp; omega
  have g4 : decide (turns > 2) = false := by simp; omega
  have g6 : decide ((0 : Int) > 4) = false := rfl
  unfold tR tX
  simp only [e1, e2, e3, e4, e5, g1, g2, g3, g4, g6, show ((1 : Int) == 1) = true from rfl, show ((1 : Int) == 3) = false from rfl, show ((1 : Int) == 2) = false from rfl, cond_true, cond_false, Bool.true_or, Bool.or_false, Bool.false_or]
  by_cases h : last = 2
  · have g5 : decide (turns + 1 > 2) = false := by have := (h1 h).1; simp; omega
    subst h
    rw [show (((2 : Int) != 0) && ((2 : Int) != 1)) = true from rfl, cond_true, g5, cond_false]
    exact (h1 rfl).2
  · have : ((last != 0) && (last != 1)) = false := by
      have : last = 0 ∨ last = 1 := by omega
      rcases this with rfl | rfl <;> rfl
    rw [this, cond_false]
    exact h2 h
theorem tr2 (hf : 0 < f ∧ f < n) (hn : n ≤ 10) (ht : 0 ≤ turns ∧ turns ≤ 2) (hm : 0 ≤ moves ∧ moves + 1 ≤ 3 * n) (hi : 0 ≤ i ∧ i < 400) (hl : 0 ≤ last ∧ last ≤ 2)
    (h1 : last = 1 → turns ≤ 1 ∧ P (f - 1, 2, turns + 1, moves + 1, 0, i + 1, N, car, hall)) (h2 : last ≠ 1 → P (f - 1, 2, turns, moves + 1, 0, i + 1, N, car, hall)) :
    Good P (tR (l, n, g, e) (2, 2, 0) N f last turns moves opens i car hall) := by
  have e1 : IntKind.i64.wrap (f - 1) = f - 1 := wrap_i64_of (by omega) (by omega)
  have e2 : IntKind.i64.wrap (turns + 1) = turns + 1 := wrap_i64_of (by omega) (by omega)
  have e3 : IntKind.i64.wrap (moves + 1) = moves + 1 := wrap_i64_of (by omega) (by omega)
  have e4 : IntKind.i64.wrap (i + 1) = i + 1 := wrap_i64_of (by omega) (by omega)
  have e5 : IntKind.i64.wrap (3 * n) = 3 * n := wrap_i64_of (by omega) (by omega)
  have g1 : decide (f - 1 < 0) = false := by simp; omega
  have g2 : decide (f - 1 ≥ n) = false := by simp; omega
  have g3 : decide (moves + 1 > 3 * n) = false := by simp; omega
  have g4 : decide (turns > 2) = false := by simp; omega
  have g6 : decide ((0 : Int) > 4) = false := rfl
  unfold tR tX
  simp only [e1, e2, e3, e4, e5, g1, g2, g3, g4, g6, show ((2 : Int) == 1) = false from rfl, show ((2 : Int) == 3) = false from rfl, show ((2 : Int) == 2) = true from rfl, cond_true, cond_false, Bool.or_true, Bool.or_false, Bool.false_or]
  by_cases h : last = 1
  · have g5 : decide (turns + 1 > 2) = false := by have := (h1 h).1; simp; omega
    subst h
    rw [show (((1 : Int) != 0) && ((1 : Int) != 2)) = true from rfl, cond_true, g5, cond_false]
    exact (h1 rfl).2
  · have : ((last != 0) && (last != 2)) = false := by
      have : last = 0 ∨ last = 2 := by omega
      rcases this with rfl | rfl <;> rfl
    rw [this, cond_false]
    exact h2 h
theorem tr3 {s : Int} (hf : 0 ≤ f ∧ f < n) (hn : n ≤ 10) (ht : 0 ≤ turns ∧ turns ≤ 2) (hi : 0 ≤ i ∧ i < 400)
    (h : ¬ (f = g ∧ s = e) → 0 ≤ opens ∧ opens ≤ 3 ∧ moves ≤ 3 * n ∧ P (f, last, turns, moves, opens + 1, i + 1, N, nand32 car (shl32 1 (IntKind.u64.wrap f)), F15 (hall, F13 (f, s)))) :
    Good P (tR (l, n, g, e) (3, s, s) N f last turns moves opens i car hall) := by
  have e4 : IntKind.i64.wrap (i + 1) = i + 1 := wrap_i64_of (by omega) (by omega)
  have e5 : IntKind.i64.wrap (3 * n) = 3 * n := wrap_i64_of (by omega) (by omega)
  have g1 : decide (f < 0) = false := by simp; omega
  have g2 : decide (f ≥ n) = false := by simp; omega
  have g4 : decide (turns > 2) = false := by simp; omega
  have g7 : decide (turns ≤ 2) = true := by simp; omega
  unfold tR tX
  simp only [e4, e5, g1, g2, g4, g7, show ((3 : Int) == 1) = false from rfl, show ((3 : Int) == 3) = true from rfl, show ((3 : Int) == 2) = false from rfl, cond_true, cond_false, Bool.or_false, Bool.false_or]
  by_cases hc : f = g ∧ s = e
  · rw [hc.1, hc.2, beq_self_eq_true, beq_self_eq_true, Bool.and_self, cond_true, sane_true]; rfl
  · have hb : ((f == g) && (s == e)) = false := by
      rw [Bool.eq_false_iff]; intro hh; rw [Bool.and_eq_true, beq_iff_eq, beq_iff_eq] at hh; exact hc hh
    have := h hc
    have e6 : IntKind.i64.wrap (opens + 1) = opens + 1 := wrap_i64_of (by omega) (by omega)
    have g5 : decide (moves > 3 * n) = false := by simp; omega
    have g6 : decide (opens + 1 > 4) = false := by simp; omega
    rw [hb, cond_false, e6, g5, g6, Bool.or_false, cond_false]
    exact this.2.2.2
end
theorem one_up (g : Nat) (hg : g < 32) : F13 ((g : Int), 1) = (shl32 1 (g : Int), 0) := by
  unfold F13
  simp only
  rw [show (decide ((g : Int) < 0) || decide ((g : Int) > 31)) = false from by simp; omega, cond_false, uwrap g hg]; rfl
theorem one_down (g : Nat) (hg : g < 32) : F13 ((g : Int), 2) = (0, shl32 1 (g : Int)) := by
  unfold F13
  simp only
  rw [show (decide ((g : Int) < 0) || decide ((g : Int) > 31)) = false from by simp; omega, cond_false, uwrap g hg]; rfl
theorem tgt {n f : Nat} {dir o c u d ab be : Int} (h : Ok n f dir o c u d) (s : Sc n f o c u d ab be) {g : Nat} (hg : g < n) (hb : isAt n c u d g = true) : (f < g → decide (0 < ab) = true) ∧ (g < f → decide (0 < be) = true) := by
  have hb' : bit (cS (cA n c) (cU n u) (cD n d)) g = true := by rw [isAt_cS g (by have := h.n32; omega)]; exact hb
  exact ⟨fun hl => s.up_iff.2 ⟨g, hl, hb'⟩, fun hl => s.down_iff.2 ⟨g, hl, hb'⟩⟩
theorem W_union (a : (Int × Int) × Int × Int) : W (F12 a).1 ∧ W (F12 a).2 := ⟨W_or _ _, W_or _ _⟩
theorem W_minus (a : (Int × Int) × Int × Int) : W (F15 a).1 ∧ W (F15 a).2 := ⟨W_nand _ _, W_nand _ _⟩
/-- Numbers in range. -/
structure Rg (n f last turns moves opens i dir o : Int) : Prop where
  f : 0 ≤ f ∧ f < n
  last : 0 ≤ last ∧ last ≤ 2
  turns : 0 ≤ turns ∧ turns ≤ 2
  moves : 0 ≤ moves
  opens : 0 ≤ opens
  i : 0 ≤ i
  dir : 0 ≤ dir ∧ dir ≤ 2
  o : 0 ≤ o ∧ o ≤ 7
/-- How far the play has come: the call is one up. -/
def A1 (n g f last turns moves opens i dir o : Int) : Prop :=
  opens + 2 - (o % 4 / 2 + o / 4) ≤ 3 ∧
  (((dir = 0 ∨ (f = g ∧ 2 ≤ o % 4)) ∧ last = 0 ∧ turns = 0 ∧ moves = 0 ∧ i + 12 * n + 2 - (o % 4 / 2 + o / 4) < 400 ∧ (¬ (f = g ∧ 2 ≤ o % 4) ∨ opens + 2 - (o % 4 / 2 + o / 4) ≤ 1)) ∨
   (¬ (f = g ∧ 2 ≤ o % 4) ∧ dir = 1 ∧ f ≤ g ∧ (turns ≤ 1 ∨ (turns = 2 ∧ last ≠ 2)) ∧ moves + g - f ≤ 3 * n ∧ i + 4 * (g - f) + 2 - (o % 4 / 2 + o / 4) < 400) ∨
   (dir = 1 ∧ f > g ∧ turns = 0 ∧ last ≠ 2 ∧ moves + 2 * (n - 1) - f + g ≤ 3 * n ∧ i + 4 * (2 * (n - 1) - f + g) + 2 - (o % 4 / 2 + o / 4) < 400) ∨
   (¬ (f = g ∧ 2 ≤ o % 4) ∧ dir = 2 ∧ (turns = 0 ∨ (turns = 1 ∧ last ≠ 1)) ∧ moves + f + g ≤ 3 * n ∧ i + 4 * (f + g) + 2 - (o % 4 / 2 + o / 4) < 400))
/-- The same for a call down. -/
def A2 (n g f last turns moves opens i dir o : Int) : Prop :=
  opens + 2 - (o % 4 / 2 + o / 4) ≤ 3 ∧
  (((dir = 0 ∨ (f = g ∧ 4 ≤ o)) ∧ last = 0 ∧ turns = 0 ∧ moves = 0 ∧ i + 12 * n + 2 - (o % 4 / 2 + o / 4) < 400 ∧ (¬ (f = g ∧ 4 ≤ o) ∨ opens + 2 - (o % 4 / 2 + o / 4) ≤ 1)) ∨
   (¬ (f = g ∧ 4 ≤ o) ∧ dir = 2 ∧ g ≤ f ∧ (turns ≤ 1 ∨ (turns = 2 ∧ last ≠ 1)) ∧ moves + f - g ≤ 3 * n ∧ i + 4 * (f - g) + 2 - (o % 4 / 2 + o / 4) < 400) ∨
   (dir = 2 ∧ f < g ∧ turns = 0 ∧ last ≠ 1 ∧ moves + 2 * (n - 1) + f - g ≤ 3 * n ∧ i + 4 * (2 * (n - 1) + f - g) + 2 - (o % 4 / 2 + o / 4) < 400) ∨
   (¬ (f = g ∧ 4 ≤ o) ∧ dir = 1 ∧ (turns = 0 ∨ (turns = 1 ∧ last ≠ 2)) ∧ moves + 2 * (n - 1) - f - g ≤ 3 * n ∧ i + 4 * (2 * (n - 1) - f - g) + 2 - (o % 4 / 2 + o / 4) < 400))
theorem a1_i {n g f last turns moves opens i dir o : Int} (hn : 2 ≤ n ∧ n ≤ 10) (hg : 0 ≤ g ∧ g + 1 < n) (R1 : 0 ≤ f ∧ f < n) (R2 : 0 ≤ last ∧ last ≤ 2) (R3 : 0 ≤ turns ∧ turns ≤ 2) (R4 : 0 ≤ moves) (R5 : 0 ≤ opens) (R6 : 0 ≤ i) (R7 : 0 ≤ dir ∧ dir ≤ 2) (R8 : 0 ≤ o ∧ o ≤ 7) (hA : A1 n g f last turns moves opens i dir o)  : i < 400 ∧ opens ≤ 3 ∧ moves ≤ 3 * n := by
  obtain ⟨ho, hA⟩ := hA
  refine ⟨?_, ?_, ?_⟩
  · rcases hA with hA | hA | hA | hA <;> omega
  · rcases hA with hA | hA | hA | hA <;> omega
  · rcases hA with hA | hA | hA | hA <;> omega
theorem a1_m1 {n g f last turns moves opens i dir o : Int} (hn : 2 ≤ n ∧ n ≤ 10) (hg : 0 ≤ g ∧ g + 1 < n) (R1 : 0 ≤ f ∧ f < n) (R2 : 0 ≤ last ∧ last ≤ 2) (R3 : 0 ≤ turns ∧ turns ≤ 2) (R4 : 0 ≤ moves) (R5 : 0 ≤ opens) (R6 : 0 ≤ i) (R7 : 0 ≤ dir ∧ dir ≤ 2) (R8 : 0 ≤ o ∧ o ≤ 7) (hA : A1 n g f last turns moves opens i dir o) (hne : f ≠ g) (hr : f + 1 < n) (h4 : g < f → dir ≠ 2) : (last = 2 → turns ≤ 1) ∧ (moves + 1 ≤ 3 * n) ∧ (last = 2 → A1 n g (f + 1) 1 (turns + 1) (moves + 1) 0 (i + 1) 1 0) ∧ (last ≠ 2 → A1 n g (f + 1) 1 turns (moves + 1) 0 (i + 1) 1 0) := by
  obtain ⟨ho, hA⟩ := hA
  refine ⟨?_, ?_, ?_, ?_⟩
  · rcases hA with hA | hA | hA | hA <;> omega
  · rcases hA with hA | hA | hA | hA <;> omega
  · intro hl; rcases Int.lt_trichotomy g (f + 1) with hp | hp | hp <;> rcases hA with hA | hA | hA | hA <;> (first | exact ⟨by omega, Or.inl ⟨by omega, by omega, by omega, by omega, by omega, by omega⟩⟩ | exact ⟨by omega, Or.inr (Or.inl ⟨by omega, by omega, by omega, by omega, by omega, by omega⟩)⟩ | exact ⟨by omega, Or.inr (Or.inr (Or.inl ⟨by omega, by omega, by omega, by omega, by omega, by omega⟩))⟩ | exact ⟨by omega, Or.inr (Or.inr (Or.inr ⟨by omega, by omega, by omega, by omega, by omega⟩))⟩ | (exfalso; omega))
  · intro hl; rcases Int.lt_trichotomy g (f + 1) with hp | hp | hp <;> rcases hA with hA | hA | hA | hA <;> (first | exact ⟨by omega, Or.inl ⟨by omega, by omega, by omega, by omega, by omega, by omega⟩⟩ | exact ⟨by omega, Or.inr (Or.inl ⟨by omega, by omega, by omega, by omega, by omega, by omega⟩)⟩ | exact ⟨by omega, Or.inr (Or.inr (Or.inl ⟨by omega, by omega, by omega, by omega, by omega, by omega⟩))⟩ | exact ⟨by omega, Or.inr (Or.inr (Or.inr ⟨by omega, by omega, by omega, by omega, by omega⟩))⟩ | (exfalso; omega))
theorem a1_m2 {n g f last turns moves opens i dir o : Int} (hn : 2 ≤ n ∧ n ≤ 10) (hg : 0 ≤ g ∧ g + 1 < n) (R1 : 0 ≤ f ∧ f < n) (R2 : 0 ≤ last ∧ last ≤ 2) (R3 : 0 ≤ turns ∧ turns ≤ 2) (R4 : 0 ≤ moves) (R5 : 0 ≤ opens) (R6 : 0 ≤ i) (R7 : 0 ≤ dir ∧ dir ≤ 2) (R8 : 0 ≤ o ∧ o ≤ 7) (hA : A1 n g f last turns moves opens i dir o) (hne : f ≠ g) (hr : 0 < f) (h4 : f < g → dir ≠ 1) : (last = 1 → turns ≤ 1) ∧ (moves + 1 ≤ 3 * n) ∧ (last = 1 → A1 n g (f - 1) 2 (turns + 1) (moves + 1) 0 (i + 1) 2 0) ∧ (last ≠ 1 → A1 n g (f - 1) 2 turns (moves + 1) 0 (i + 1) 2 0) := by
  obtain ⟨ho, hA⟩ := hA
  refine ⟨?_, ?_, ?_, ?_⟩
  · rcases hA with hA | hA | hA | hA <;> omega
  · rcases hA with hA | hA | hA | hA <;> omega
  · intro hl; rcases Int.lt_trichotomy g (f - 1) with hp | hp | hp <;> rcases hA with hA | hA | hA | hA <;> (first | exact ⟨by omega, Or.inl ⟨by omega, by omega, by omega, by omega, by omega, by omega⟩⟩ | exact ⟨by omega, Or.inr (Or.inl ⟨by omega, by omega, by omega, by omega, by omega, by omega⟩)⟩ | exact ⟨by omega, Or.inr (Or.inr (Or.inl ⟨by omega, by omega, by omega, by omega, by omega, by omega⟩))⟩ | exact ⟨by omega, Or.inr (Or.inr (Or.inr ⟨by omega, by omega, by omega, by omega, by omega⟩))⟩ | (exfalso; omega))
  · intro hl; rcases Int.lt_trichotomy g (f - 1) with hp | hp | hp <;> rcases hA with hA | hA | hA | hA <;> (first | exact ⟨by omega, Or.inl ⟨by omega, by omega, by omega, by omega, by omega, by omega⟩⟩ | exact ⟨by omega, Or.inr (Or.inl ⟨by omega, by omega, by omega, by omega, by omega, by omega⟩)⟩ | exact ⟨by omega, Or.inr (Or.inr (Or.inl ⟨by omega, by omega, by omega, by omega, by omega, by omega⟩))⟩ | exact ⟨by omega, Or.inr (Or.inr (Or.inr ⟨by omega, by omega, by omega, by omega, by omega⟩))⟩ | (exfalso; omega))
theorem a1_o1 {n g f last turns moves opens i dir o : Int} (hn : 2 ≤ n ∧ n ≤ 10) (hg : 0 ≤ g ∧ g + 1 < n) (R1 : 0 ≤ f ∧ f < n) (R2 : 0 ≤ last ∧ last ≤ 2) (R3 : 0 ≤ turns ∧ turns ≤ 2) (R4 : 0 ≤ moves) (R5 : 0 ≤ opens) (R6 : 0 ≤ i) (R7 : 0 ≤ dir ∧ dir ≤ 2) (R8 : 0 ≤ o ∧ o ≤ 7) (hA : A1 n g f last turns moves opens i dir o) (hne : f ≠ g) (hm : o % 4 < 2) (h4 : g < f → dir ≠ 2) : (A1 n g f last turns moves (opens + 1) (i + 1) 1 (o + 2)) := by
  obtain ⟨ho, hA⟩ := hA
  · rcases Int.lt_trichotomy g (f) with hp | hp | hp <;> rcases hA with hA | hA | hA | hA <;> (first | exact ⟨by omega, Or.inl ⟨by omega, by omega, by omega, by omega, by omega, by omega⟩⟩ | exact ⟨by omega, Or.inr (Or.inl ⟨by omega, by omega, by omega, by omega, by omega, by omega⟩)⟩ | exact ⟨by omega, Or.inr (Or.inr (Or.inl ⟨by omega, by omega, by omega, by omega, by omega, by omega⟩))⟩ | exact ⟨by omega, Or.inr (Or.inr (Or.inr ⟨by omega, by omega, by omega, by omega, by omega⟩))⟩ | (exfalso; omega))
theorem a1_o2 {n g f last turns moves opens i dir o : Int} (hn : 2 ≤ n ∧ n ≤ 10) (hg : 0 ≤ g ∧ g + 1 < n) (R1 : 0 ≤ f ∧ f < n) (R2 : 0 ≤ last ∧ last ≤ 2) (R3 : 0 ≤ turns ∧ turns ≤ 2) (R4 : 0 ≤ moves) (R5 : 0 ≤ opens) (R6 : 0 ≤ i) (R7 : 0 ≤ dir ∧ dir ≤ 2) (R8 : 0 ≤ o ∧ o ≤ 7) (hA : A1 n g f last turns moves opens i dir o) (hne : f ≠ g) (hm : o < 4) (h4 : f < g → dir ≠ 1) : (A1 n g f last turns moves (opens + 1) (i + 1) 2 (o + 4)) := by
  obtain ⟨ho, hA⟩ := hA
  · rcases Int.lt_trichotomy g (f) with hp | hp | hp <;> rcases hA with hA | hA | hA | hA <;> (first | exact ⟨by omega, Or.inl ⟨by omega, by omega, by omega, by omega, by omega, by omega⟩⟩ | exact ⟨by omega, Or.inr (Or.inl ⟨by omega, by omega, by omega, by omega, by omega, by omega⟩)⟩ | exact ⟨by omega, Or.inr (Or.inr (Or.inl ⟨by omega, by omega, by omega, by omega, by omega, by omega⟩))⟩ | exact ⟨by omega, Or.inr (Or.inr (Or.inr ⟨by omega, by omega, by omega, by omega, by omega⟩))⟩ | (exfalso; omega))
theorem a1_q1 {n g f last turns moves opens i dir o : Int} (hn : 2 ≤ n ∧ n ≤ 10) (hg : 0 ≤ g ∧ g + 1 < n) (R1 : 0 ≤ f ∧ f < n) (R2 : 0 ≤ last ∧ last ≤ 2) (R3 : 0 ≤ turns ∧ turns ≤ 2) (R4 : 0 ≤ moves) (R5 : 0 ≤ opens) (R6 : 0 ≤ i) (R7 : 0 ≤ dir ∧ dir ≤ 2) (R8 : 0 ≤ o ∧ o ≤ 7) (hA : A1 n g f last turns moves opens i dir o) (heq : f = g) (h0 : ¬ (o % 4 < 2 ∧ dir ≠ 2)) (hm : o < 4) : (A1 n g f last turns moves (opens + 1) (i + 1) 2 (o + 4)) := by
  obtain ⟨ho, hA⟩ := hA
  · rcases Int.lt_or_le o 4 with hq | hq <;> rcases Int.lt_trichotomy g (f) with hp | hp | hp <;> rcases hA with hA | hA | hA | hA <;> (first | exact ⟨by omega, Or.inl ⟨by omega, by omega, by omega, by omega, by omega, by omega⟩⟩ | exact ⟨by omega, Or.inr (Or.inl ⟨by omega, by omega, by omega, by omega, by omega, by omega⟩)⟩ | exact ⟨by omega, Or.inr (Or.inr (Or.inl ⟨by omega, by omega, by omega, by omega, by omega, by omega⟩))⟩ | exact ⟨by omega, Or.inr (Or.inr (Or.inr ⟨by omega, by omega, by omega, by omega, by omega⟩))⟩ | (exfalso; omega))
theorem a1_q2 {n g f last turns moves opens i dir o : Int} (hn : 2 ≤ n ∧ n ≤ 10) (hg : 0 ≤ g ∧ g + 1 < n) (R1 : 0 ≤ f ∧ f < n) (R2 : 0 ≤ last ∧ last ≤ 2) (R3 : 0 ≤ turns ∧ turns ≤ 2) (R4 : 0 ≤ moves) (R5 : 0 ≤ opens) (R6 : 0 ≤ i) (R7 : 0 ≤ dir ∧ dir ≤ 2) (R8 : 0 ≤ o ∧ o ≤ 7) (hA : A1 n g f last turns moves opens i dir o) (heq : f = g) (h0 : ¬ (o % 4 < 2)) (hm : ¬ (o < 4)) : (A1 n g f last turns moves (opens + 1) (i + 1) 2 4) := by
  obtain ⟨ho, hA⟩ := hA
  · rcases Int.lt_trichotomy g (f) with hp | hp | hp <;> rcases hA with hA | hA | hA | hA <;> (first | exact ⟨by omega, Or.inl ⟨by omega, by omega, by omega, by omega, by omega, by omega⟩⟩ | exact ⟨by omega, Or.inr (Or.inl ⟨by omega, by omega, by omega, by omega, by omega, by omega⟩)⟩ | exact ⟨by omega, Or.inr (Or.inr (Or.inl ⟨by omega, by omega, by omega, by omega, by omega, by omega⟩))⟩ | exact ⟨by omega, Or.inr (Or.inr (Or.inr ⟨by omega, by omega, by omega, by omega, by omega⟩))⟩ | (exfalso; omega))
theorem a1_q3 {n g f last turns moves opens i dir o : Int} (hn : 2 ≤ n ∧ n ≤ 10) (hg : 0 ≤ g ∧ g + 1 < n) (R1 : 0 ≤ f ∧ f < n) (R2 : 0 ≤ last ∧ last ≤ 2) (R3 : 0 ≤ turns ∧ turns ≤ 2) (R4 : 0 ≤ moves) (R5 : 0 ≤ opens) (R6 : 0 ≤ i) (R7 : 0 ≤ dir ∧ dir ≤ 2) (R8 : 0 ≤ o ∧ o ≤ 7) (hA : A1 n g f last turns moves opens i dir o) (heq : f = g) (h0 : ¬ (o % 4 < 2 ∧ dir ≠ 2)) (hr : 0 < f) : (last = 1 → turns ≤ 1) ∧ (moves + 1 ≤ 3 * n) ∧ (last = 1 → A1 n g (f - 1) 2 (turns + 1) (moves + 1) 0 (i + 1) 2 0) ∧ (last ≠ 1 → A1 n g (f - 1) 2 turns (moves + 1) 0 (i + 1) 2 0) := by
  obtain ⟨ho, hA⟩ := hA
  refine ⟨?_, ?_, ?_, ?_⟩
  · rcases hA with hA | hA | hA | hA <;> omega
  · rcases hA with hA | hA | hA | hA <;> omega
  · intro hl; rcases Int.lt_trichotomy g (f - 1) with hp | hp | hp <;> rcases hA with hA | hA | hA | hA <;> (first | exact ⟨by omega, Or.inl ⟨by omega, by omega, by omega, by omega, by omega, by omega⟩⟩ | exact ⟨by omega, Or.inr (Or.inl ⟨by omega, by omega, by omega, by omega, by omega, by omega⟩)⟩ | exact ⟨by omega, Or.inr (Or.inr (Or.inl ⟨by omega, by omega, by omega, by omega, by omega, by omega⟩))⟩ | exact ⟨by omega, Or.inr (Or.inr (Or.inr ⟨by omega, by omega, by omega, by omega, by omega⟩))⟩ | (exfalso; omega))
  · intro hl; rcases Int.lt_trichotomy g (f - 1) with hp | hp | hp <;> rcases hA with hA | hA | hA | hA <;> (first | exact ⟨by omega, Or.inl ⟨by omega, by omega, by omega, by omega, by omega, by omega⟩⟩ | exact ⟨by omega, Or.inr (Or.inl ⟨by omega, by omega, by omega, by omega, by omega, by omega⟩)⟩ | exact ⟨by omega, Or.inr (Or.inr (Or.inl ⟨by omega, by omega, by omega, by omega, by omega, by omega⟩))⟩ | exact ⟨by omega, Or.inr (Or.inr (Or.inr ⟨by omega, by omega, by omega, by omega, by omega⟩))⟩ | (exfalso; omega))
theorem a1_q4 {n g f last turns moves opens i dir o : Int} (hn : 2 ≤ n ∧ n ≤ 10) (hg : 0 ≤ g ∧ g + 1 < n) (R1 : 0 ≤ f ∧ f < n) (R2 : 0 ≤ last ∧ last ≤ 2) (R3 : 0 ≤ turns ∧ turns ≤ 2) (R4 : 0 ≤ moves) (R5 : 0 ≤ opens) (R6 : 0 ≤ i) (R7 : 0 ≤ dir ∧ dir ≤ 2) (R8 : 0 ≤ o ∧ o ≤ 7) (hA : A1 n g f last turns moves opens i dir o) (heq : f = g) (h0 : ¬ (o % 4 < 2)) (hr : f + 1 < n) : (last = 2 → turns ≤ 1) ∧ (moves + 1 ≤ 3 * n) ∧ (last = 2 → A1 n g (f + 1) 1 (turns + 1) (moves + 1) 0 (i + 1) 1 0) ∧ (last ≠ 2 → A1 n g (f + 1) 1 turns (moves + 1) 0 (i + 1) 1 0) := by
  obtain ⟨ho, hA⟩ := hA
  refine ⟨?_, ?_, ?_, ?_⟩
  · rcases hA with hA | hA | hA | hA <;> omega
  · rcases hA with hA | hA | hA | hA <;> omega
  · intro hl; rcases Int.lt_trichotomy g (f + 1) with hp | hp | hp <;> rcases hA with hA | hA | hA | hA <;> (first | exact ⟨by omega, Or.inl ⟨by omega, by omega, by omega, by omega, by omega, by omega⟩⟩ | exact ⟨by omega, Or.inr (Or.inl ⟨by omega, by omega, by omega, by omega, by omega, by omega⟩)⟩ | exact ⟨by omega, Or.inr (Or.inr (Or.inl ⟨by omega, by omega, by omega, by omega, by omega, by omega⟩))⟩ | exact ⟨by omega, Or.inr (Or.inr (Or.inr ⟨by omega, by omega, by omega, by omega, by omega⟩))⟩ | (exfalso; omega))
  · intro hl; rcases Int.lt_trichotomy g (f + 1) with hp | hp | hp <;> rcases hA with hA | hA | hA | hA <;> (first | exact ⟨by omega, Or.inl ⟨by omega, by omega, by omega, by omega, by omega, by omega⟩⟩ | exact ⟨by omega, Or.inr (Or.inl ⟨by omega, by omega, by omega, by omega, by omega, by omega⟩)⟩ | exact ⟨by omega, Or.inr (Or.inr (Or.inl ⟨by omega, by omega, by omega, by omega, by omega, by omega⟩))⟩ | exact ⟨by omega, Or.inr (Or.inr (Or.inr ⟨by omega, by omega, by omega, by omega, by omega⟩))⟩ | (exfalso; omega))
theorem a2_i {n g f last turns moves opens i dir o : Int} (hn : 2 ≤ n ∧ n ≤ 10) (hg : 0 < g ∧ g < n) (R1 : 0 ≤ f ∧ f < n) (R2 : 0 ≤ last ∧ last ≤ 2) (R3 : 0 ≤ turns ∧ turns ≤ 2) (R4 : 0 ≤ moves) (R5 : 0 ≤ opens) (R6 : 0 ≤ i) (R7 : 0 ≤ dir ∧ dir ≤ 2) (R8 : 0 ≤ o ∧ o ≤ 7) (hA : A2 n g f last turns moves opens i dir o)  : i < 400 ∧ opens ≤ 3 ∧ moves ≤ 3 * n := by
  obtain ⟨ho, hA⟩ := hA
  refine ⟨?_, ?_, ?_⟩
  · rcases hA with hA | hA | hA | hA <;> omega
  · rcases hA with hA | hA | hA | hA <;> omega
  · rcases hA with hA | hA | hA | hA <;> omega
theorem a2_m1 {n g f last turns moves opens i dir o : Int} (hn : 2 ≤ n ∧ n ≤ 10) (hg : 0 < g ∧ g < n) (R1 : 0 ≤ f ∧ f < n) (R2 : 0 ≤ last ∧ last ≤ 2) (R3 : 0 ≤ turns ∧ turns ≤ 2) (R4 : 0 ≤ moves) (R5 : 0 ≤ opens) (R6 : 0 ≤ i) (R7 : 0 ≤ dir ∧ dir ≤ 2) (R8 : 0 ≤ o ∧ o ≤ 7) (hA : A2 n g f last turns moves opens i dir o) (hne : f ≠ g) (hr : f + 1 < n) (h4 : g < f → dir ≠ 2) : (last = 2 → turns ≤ 1) ∧ (moves + 1 ≤ 3 * n) ∧ (last = 2 → A2 n g (f + 1) 1 (turns + 1) (moves + 1) 0 (i + 1) 1 0) ∧ (last ≠ 2 → A2 n g (f + 1) 1 turns (moves + 1) 0 (i + 1) 1 0) := by
  obtain ⟨ho, hA⟩ := hA
  refine ⟨?_, ?_, ?_, ?_⟩
  · rcases hA with hA | hA | hA | hA <;> omega
  · rcases hA with hA | hA | hA | hA <;> omega
  · intro hl; rcases Int.lt_trichotomy g (f + 1) with hp | hp | hp <;> rcases hA with hA | hA | hA | hA <;> (first | exact ⟨by omega, Or.inl ⟨by omega, by omega, by omega, by omega, by omega, by omega⟩⟩ | exact ⟨by omega, Or.inr (Or.inl ⟨by omega, by omega, by omega, by omega, by omega, by omega⟩)⟩ | exact ⟨by omega, Or.inr (Or.inr (Or.inl ⟨by omega, by omega, by omega, by omega, by omega, by omega⟩))⟩ | exact ⟨by omega, Or.inr (Or.inr (Or.inr ⟨by omega, by omega, by omega, by omega, by omega⟩))⟩ | (exfalso; omega))
  · intro hl; rcases Int.lt_trichotomy g (f + 1) with hp | hp | hp <;> rcases hA with hA | hA | hA | hA <;> (first | exact ⟨by omega, Or.inl ⟨by omega, by omega, by omega, by omega, by omega, by omega⟩⟩ | exact ⟨by omega, Or.inr (Or.inl ⟨by omega, by omega, by omega, by omega, by omega, by omega⟩)⟩ | exact ⟨by omega, Or.inr (Or.inr (Or.inl ⟨by omega, by omega, by omega, by omega, by omega, by omega⟩))⟩ | exact ⟨by omega, Or.inr (Or.inr (Or.inr ⟨by omega, by omega, by omega, by omega, by omega⟩))⟩ | (exfalso; omega))
theorem a2_m2 {n g f last turns moves opens i dir o : Int} (hn : 2 ≤ n ∧ n ≤ 10) (hg : 0 < g ∧ g < n) (R1 : 0 ≤ f ∧ f < n) (R2 : 0 ≤ last ∧ last ≤ 2) (R3 : 0 ≤ turns ∧ turns ≤ 2) (R4 : 0 ≤ moves) (R5 : 0 ≤ opens) (R6 : 0 ≤ i) (R7 : 0 ≤ dir ∧ dir ≤ 2) (R8 : 0 ≤ o ∧ o ≤ 7) (hA : A2 n g f last turns moves opens i dir o) (hne : f ≠ g) (hr : 0 < f) (h4 : f < g → dir ≠ 1) : (last = 1 → turns ≤ 1) ∧ (moves + 1 ≤ 3 * n) ∧ (last = 1 → A2 n g (f - 1) 2 (turns + 1) (moves + 1) 0 (i + 1) 2 0) ∧ (last ≠ 1 → A2 n g (f - 1) 2 turns (moves + 1) 0 (i + 1) 2 0) := by
  obtain ⟨ho, hA⟩ := hA
  refine ⟨?_, ?_, ?_, ?_⟩
  · rcases hA with hA | hA | hA | hA <;> omega
  · rcases hA with hA | hA | hA | hA <;> omega
  · intro hl; rcases Int.lt_trichotomy g (f - 1) with hp | hp | hp <;> rcases hA with hA | hA | hA | hA <;> (first | exact ⟨by omega, Or.inl ⟨by omega, by omega, by omega, by omega, by omega, by omega⟩⟩ | exact ⟨by omega, Or.inr (Or.inl ⟨by omega, by omega, by omega, by omega, by omega, by omega⟩)⟩ | exact ⟨by omega, Or.inr (Or.inr (Or.inl ⟨by omega, by omega, by omega, by omega, by omega, by omega⟩))⟩ | exact ⟨by omega, Or.inr (Or.inr (Or.inr ⟨by omega, by omega, by omega, by omega, by omega⟩))⟩ | (exfalso; omega))
  · intro hl; rcases Int.lt_trichotomy g (f - 1) with hp | hp | hp <;> rcases hA with hA | hA | hA | hA <;> (first | exact ⟨by omega, Or.inl ⟨by omega, by omega, by omega, by omega, by omega, by omega⟩⟩ | exact ⟨by omega, Or.inr (Or.inl ⟨by omega, by omega, by omega, by omega, by omega, by omega⟩)⟩ | exact ⟨by omega, Or.inr (Or.inr (Or.inl ⟨by omega, by omega, by omega, by omega, by omega, by omega⟩))⟩ | exact ⟨by omega, Or.inr (Or.inr (Or.inr ⟨by omega, by omega, by omega, by omega, by omega⟩))⟩ | (exfalso; omega))
theorem a2_o1 {n g f last turns moves opens i dir o : Int} (hn : 2 ≤ n ∧ n ≤ 10) (hg : 0 < g ∧ g < n) (R1 : 0 ≤ f ∧ f < n) (R2 : 0 ≤ last ∧ last ≤ 2) (R3 : 0 ≤ turns ∧ turns ≤ 2) (R4 : 0 ≤ moves) (R5 : 0 ≤ opens) (R6 : 0 ≤ i) (R7 : 0 ≤ dir ∧ dir ≤ 2) (R8 : 0 ≤ o ∧ o ≤ 7) (hA : A2 n g f last turns moves opens i dir o) (hne : f ≠ g) (hm : o % 4 < 2) (h4 : g < f → dir ≠ 2) : (A2 n g f last turns moves (opens + 1) (i + 1) 1 (o + 2)) := by
  obtain ⟨ho, hA⟩ := hA
  · rcases Int.lt_trichotomy g (f) with hp | hp | hp <;> rcases hA with hA | hA | hA | hA <;> (first | exact ⟨by omega, Or.inl ⟨by omega, by omega, by omega, by omega, by omega, by omega⟩⟩ | exact ⟨by omega, Or.inr (Or.inl ⟨by omega, by omega, by omega, by omega, by omega, by omega⟩)⟩ | exact ⟨by omega, Or.inr (Or.inr (Or.inl ⟨by omega, by omega, by omega, by omega, by omega, by omega⟩))⟩ | exact ⟨by omega, Or.inr (Or.inr (Or.inr ⟨by omega, by omega, by omega, by omega, by omega⟩))⟩ | (exfalso; omega))
theorem a2_o2 {n g f last turns moves opens i dir o : Int} (hn : 2 ≤ n ∧ n ≤ 10) (hg : 0 < g ∧ g < n) (R1 : 0 ≤ f ∧ f < n) (R2 : 0 ≤ last ∧ last ≤ 2) (R3 : 0 ≤ turns ∧ turns ≤ 2) (R4 : 0 ≤ moves) (R5 : 0 ≤ opens) (R6 : 0 ≤ i) (R7 : 0 ≤ dir ∧ dir ≤ 2) (R8 : 0 ≤ o ∧ o ≤ 7) (hA : A2 n g f last turns moves opens i dir o) (hne : f ≠ g) (hm : o < 4) (h4 : f < g → dir ≠ 1) : (A2 n g f last turns moves (opens + 1) (i + 1) 2 (o + 4)) := by
  obtain ⟨ho, hA⟩ := hA
  · rcases Int.lt_trichotomy g (f) with hp | hp | hp <;> rcases hA with hA | hA | hA | hA <;> (first | exact ⟨by omega, Or.inl ⟨by omega, by omega, by omega, by omega, by omega, by omega⟩⟩ | exact ⟨by omega, Or.inr (Or.inl ⟨by omega, by omega, by omega, by omega, by omega, by omega⟩)⟩ | exact ⟨by omega, Or.inr (Or.inr (Or.inl ⟨by omega, by omega, by omega, by omega, by omega, by omega⟩))⟩ | exact ⟨by omega, Or.inr (Or.inr (Or.inr ⟨by omega, by omega, by omega, by omega, by omega⟩))⟩ | (exfalso; omega))
theorem a2_q1 {n g f last turns moves opens i dir o : Int} (hn : 2 ≤ n ∧ n ≤ 10) (hg : 0 < g ∧ g < n) (R1 : 0 ≤ f ∧ f < n) (R2 : 0 ≤ last ∧ last ≤ 2) (R3 : 0 ≤ turns ∧ turns ≤ 2) (R4 : 0 ≤ moves) (R5 : 0 ≤ opens) (R6 : 0 ≤ i) (R7 : 0 ≤ dir ∧ dir ≤ 2) (R8 : 0 ≤ o ∧ o ≤ 7) (hA : A2 n g f last turns moves opens i dir o) (heq : f = g) (h0 : ¬ (o < 4 ∧ dir = 2)) (hm : o % 4 < 2) : (A2 n g f last turns moves (opens + 1) (i + 1) 1 (o + 2)) := by
  obtain ⟨ho, hA⟩ := hA
  · rcases Int.lt_or_le o 4 with hq | hq <;> rcases Int.lt_trichotomy g (f) with hp | hp | hp <;> rcases hA with hA | hA | hA | hA <;> (first | exact ⟨by omega, Or.inl ⟨by omega, by omega, by omega, by omega, by omega, by omega⟩⟩ | exact ⟨by omega, Or.inr (Or.inl ⟨by omega, by omega, by omega, by omega, by omega, by omega⟩)⟩ | exact ⟨by omega, Or.inr (Or.inr (Or.inl ⟨by omega, by omega, by omega, by omega, by omega, by omega⟩))⟩ | exact ⟨by omega, Or.inr (Or.inr (Or.inr ⟨by omega, by omega, by omega, by omega, by omega⟩))⟩ | (exfalso; omega))
theorem a2_q2 {n g f last turns moves opens i dir o : Int} (hn : 2 ≤ n ∧ n ≤ 10) (hg : 0 < g ∧ g < n) (R1 : 0 ≤ f ∧ f < n) (R2 : 0 ≤ last ∧ last ≤ 2) (R3 : 0 ≤ turns ∧ turns ≤ 2) (R4 : 0 ≤ moves) (R5 : 0 ≤ opens) (R6 : 0 ≤ i) (R7 : 0 ≤ dir ∧ dir ≤ 2) (R8 : 0 ≤ o ∧ o ≤ 7) (hA : A2 n g f last turns moves opens i dir o) (heq : f = g) (h0 : ¬ (o < 4)) (hm : ¬ (o % 4 < 2)) : (A2 n g f last turns moves (opens + 1) (i + 1) 1 2) := by
  obtain ⟨ho, hA⟩ := hA
  · rcases Int.lt_trichotomy g (f) with hp | hp | hp <;> rcases hA with hA | hA | hA | hA <;> (first | exact ⟨by omega, Or.inl ⟨by omega, by omega, by omega, by omega, by omega, by omega⟩⟩ | exact ⟨by omega, Or.inr (Or.inl ⟨by omega, by omega, by omega, by omega, by omega, by omega⟩)⟩ | exact ⟨by omega, Or.inr (Or.inr (Or.inl ⟨by omega, by omega, by omega, by omega, by omega, by omega⟩))⟩ | exact ⟨by omega, Or.inr (Or.inr (Or.inr ⟨by omega, by omega, by omega, by omega, by omega⟩))⟩ | (exfalso; omega))
theorem a2_q3 {n g f last turns moves opens i dir o : Int} (hn : 2 ≤ n ∧ n ≤ 10) (hg : 0 < g ∧ g < n) (R1 : 0 ≤ f ∧ f < n) (R2 : 0 ≤ last ∧ last ≤ 2) (R3 : 0 ≤ turns ∧ turns ≤ 2) (R4 : 0 ≤ moves) (R5 : 0 ≤ opens) (R6 : 0 ≤ i) (R7 : 0 ≤ dir ∧ dir ≤ 2) (R8 : 0 ≤ o ∧ o ≤ 7) (hA : A2 n g f last turns moves opens i dir o) (heq : f = g) (h0 : ¬ (o < 4 ∧ dir ≠ 1)) (hr : f + 1 < n) : (last = 2 → turns ≤ 1) ∧ (moves + 1 ≤ 3 * n) ∧ (last = 2 → A2 n g (f + 1) 1 (turns + 1) (moves + 1) 0 (i + 1) 1 0) ∧ (last ≠ 2 → A2 n g (f + 1) 1 turns (moves + 1) 0 (i + 1) 1 0) := by
  obtain ⟨ho, hA⟩ := hA
  refine ⟨?_, ?_, ?_, ?_⟩
  · rcases hA with hA | hA | hA | hA <;> omega
  · rcases hA with hA | hA | hA | hA <;> omega
  · intro hl; rcases Int.lt_trichotomy g (f + 1) with hp | hp | hp <;> rcases hA with hA | hA | hA | hA <;> (first | exact ⟨by omega, Or.inl ⟨by omega, by omega, by omega, by omega, by omega, by omega⟩⟩ | exact ⟨by omega, Or.inr (Or.inl ⟨by omega, by omega, by omega, by omega, by omega, by omega⟩)⟩ | exact ⟨by omega, Or.inr (Or.inr (Or.inl ⟨by omega, by omega, by omega, by omega, by omega, by omega⟩))⟩ | exact ⟨by omega, Or.inr (Or.inr (Or.inr ⟨by omega, by omega, by omega, by omega, by omega⟩))⟩ | (exfalso; omega))
  · intro hl; rcases Int.lt_trichotomy g (f + 1) with hp | hp | hp <;> rcases hA with hA | hA | hA | hA <;> (first | exact ⟨by omega, Or.inl ⟨by omega, by omega, by omega, by omega, by omega, by omega⟩⟩ | exact ⟨by omega, Or.inr (Or.inl ⟨by omega, by omega, by omega, by omega, by omega, by omega⟩)⟩ | exact ⟨by omega, Or.inr (Or.inr (Or.inl ⟨by omega, by omega, by omega, by omega, by omega, by omega⟩))⟩ | exact ⟨by omega, Or.inr (Or.inr (Or.inr ⟨by omega, by omega, by omega, by omega, by omega⟩))⟩ | (exfalso; omega))
theorem a2_q4 {n g f last turns moves opens i dir o : Int} (hn : 2 ≤ n ∧ n ≤ 10) (hg : 0 < g ∧ g < n) (R1 : 0 ≤ f ∧ f < n) (R2 : 0 ≤ last ∧ last ≤ 2) (R3 : 0 ≤ turns ∧ turns ≤ 2) (R4 : 0 ≤ moves) (R5 : 0 ≤ opens) (R6 : 0 ≤ i) (R7 : 0 ≤ dir ∧ dir ≤ 2) (R8 : 0 ≤ o ∧ o ≤ 7) (hA : A2 n g f last turns moves opens i dir o) (heq : f = g) (h0 : ¬ (o < 4)) (hr : 0 < f) : (last = 1 → turns ≤ 1) ∧ (moves + 1 ≤ 3 * n) ∧ (last = 1 → A2 n g (f - 1) 2 (turns + 1) (moves + 1) 0 (i + 1) 2 0) ∧ (last ≠ 1 → A2 n g (f - 1) 2 turns (moves + 1) 0 (i + 1) 2 0) := by
  obtain ⟨ho, hA⟩ := hA
  refine ⟨?_, ?_, ?_, ?_⟩
  · rcases hA with hA | hA | hA | hA <;> omega
  · rcases hA with hA | hA | hA | hA <;> omega
  · intro hl; rcases Int.lt_trichotomy g (f - 1) with hp | hp | hp <;> rcases hA with hA | hA | hA | hA <;> (first | exact ⟨by omega, Or.inl ⟨by omega, by omega, by omega, by omega, by omega, by omega⟩⟩ | exact ⟨by omega, Or.inr (Or.inl ⟨by omega, by omega, by omega, by omega, by omega, by omega⟩)⟩ | exact ⟨by omega, Or.inr (Or.inr (Or.inl ⟨by omega, by omega, by omega, by omega, by omega, by omega⟩))⟩ | exact ⟨by omega, Or.inr (Or.inr (Or.inr ⟨by omega, by omega, by omega, by omega, by omega⟩))⟩ | (exfalso; omega))
  · intro hl; rcases Int.lt_trichotomy g (f - 1) with hp | hp | hp <;> rcases hA with hA | hA | hA | hA <;> (first | exact ⟨by omega, Or.inl ⟨by omega, by omega, by omega, by omega, by omega, by omega⟩⟩ | exact ⟨by omega, Or.inr (Or.inl ⟨by omega, by omega, by omega, by omega, by omega, by omega⟩)⟩ | exact ⟨by omega, Or.inr (Or.inr (Or.inl ⟨by omega, by omega, by omega, by omega, by omega, by omega⟩))⟩ | exact ⟨by omega, Or.inr (Or.inr (Or.inr ⟨by omega, by omega, by omega, by omega, by omega⟩))⟩ | (exfalso; omega))

/-- What holds before every round. -/
def I1 (n g : Int) (x : XS) : Prop := Rg n x.1 x.2.1 x.2.2.1 x.2.2.2.1 x.2.2.2.2.1 x.2.2.2.2.2.1 x.2.2.2.2.2.2.1.1 x.2.2.2.2.2.2.1.2 ∧ A1 n g x.1 x.2.1 x.2.2.1 x.2.2.2.1 x.2.2.2.2.1 x.2.2.2.2.2.1 x.2.2.2.2.2.2.1.1 x.2.2.2.2.2.2.1.2 ∧ W x.2.2.2.2.2.2.2.1 ∧ W x.2.2.2.2.2.2.2.2.1 ∧ W x.2.2.2.2.2.2.2.2.2
theorem I1.mk {n g f last turns moves opens i dir o c u d : Int} (R : Rg n f last turns moves opens i dir o) (a : A1 n g f last turns moves opens i dir o) (hc : W c) (hu : W u) (hd : W d) : I1 n g (f, last, turns, moves, opens, i, (dir, o), c, u, d) := ⟨R, a, hc, hu, hd⟩
set_option maxHeartbeats 4000000 in
theorem round1 (l : List (Int × Int × Int)) {n g : Nat} (hn2 : 2 ≤ n) (hn : n ≤ 10) (hg : g + 1 < n) {f last turns moves opens i dir o c u d : Int}
    (R : Rg n f last turns moves opens i dir o) (hA : A1 n g f last turns moves opens i dir o) (hc : W c) (hu : W u) (hd : W d) (hb : (bit u g = true)) :
    Good (fun y => I1 n g y ∧ y.2.2.2.2.2.1 = i + 1) (tR (l, (n : Int), (g : Int), 1) (F9 ((n : Int), (dir, o), f, c, u, d)) (F14 ((n : Int), (dir, o), f, c, u, d)) f last turns moves opens i c (u, d)) := by
  obtain ⟨f, rfl⟩ := Int.eq_ofNat_of_zero_le R.f.1
  obtain ⟨dir, rfl⟩ := Int.eq_ofNat_of_zero_le R.dir.1
  obtain ⟨o, rfl⟩ := Int.eq_ofNat_of_zero_le R.o.1
  have hok : Ok n f (dir : Int) (o : Int) c u d := ⟨hn2, by omega, by have := R.f; omega, R.dir, R.o, hc, hu, hd⟩
  obtain ⟨ab, be, s, hC, hN⟩ := Choose_ch hok
  have hat : isAt n c u d g = true := by
    unfold isAt
    rw [bit_cU (by omega) hu, hb]
    simp; omega
  have ht := tgt hok s (show g < n by omega) hat
  have hrU := fun h => up_room hok s h
  have hrD := fun h => down_room s h
  rw [hC, hN]
  have hW1 := fun x y => W_nand x y
  have R1 := R.f; have R2 := R.last; have R3 := R.turns; have R4 := R.moves; have R5 := R.opens; have R6 := R.i; have R7 := R.dir; have R8 := R.o
  have hT : f = g → bit (cU n u) f = true := fun h => by
    rw [h, bit_cU (by omega) hu, hb]; simp; omega
  generalize (bit (cA n c) f) = A at hT ⊢
  generalize (bit (cU n u) f) = U at hT ⊢
  generalize (bit (cD n d) f) = D at hT ⊢
  generalize decide (0 < ab) = a at ht hrU ⊢
  generalize decide (0 < be) = b at ht hrD ⊢
  generalize decide (be ≥ ab) = l' at ⊢
  have hgi : (0 : Int) ≤ g ∧ (g : Int) + 1 < n := by omega
  have hni : (2 : Int) ≤ n ∧ (n : Int) ≤ 10 := by omega
  obtain ⟨i1, i2, i3⟩ := a1_i hni hgi R1 R2 R3 R4 R5 R6 R7 R8 hA
  have hi : (0 : Int) ≤ i ∧ i < 400 := ⟨R6, i1⟩
  by_cases hfg : f = g
  · have hT2 := hT hfg
    clear hT
    subst hfg
    subst hT2
    rcases S2u dir (by omega) o (by omega) A D a b l' with h | ⟨h0, h, h1, h2⟩ | ⟨h0, h1, h, h2⟩ | ⟨h0, h, h1, h2⟩ | ⟨h0, h, h1, h2⟩
    · rw [h]
      exact tr3 (by omega) (by omega) (by omega) hi (fun hx => absurd ⟨rfl, rfl⟩ hx)
    · rw [h, h2]
      exact tr3 (by omega) (by omega) (by omega) hi (fun hx => ⟨by omega, by omega, by omega, I1.mk ⟨by omega, by omega, by omega, by omega, by omega, by omega, by omega, by omega⟩ (a1_q1 hni hgi R1 R2 R3 R4 R5 R6 R7 R8 hA rfl (by omega) (by omega)) (hW1 _ _) (hW1 _ _) (hW1 _ _), rfl⟩)
    · rw [h, h2]
      exact tr3 (by omega) (by omega) (by omega) hi (fun hx => ⟨by omega, by omega, by omega, I1.mk ⟨by omega, by omega, by omega, by omega, by omega, by omega, by omega, by omega⟩ (a1_q2 hni hgi R1 R2 R3 R4 R5 R6 R7 R8 hA rfl (by omega) (by omega)) (hW1 _ _) (hW1 _ _) (hW1 _ _), rfl⟩)
    · have hr := hrD h1
      rw [h, h2]
      obtain ⟨w1, w2, w3, w4⟩ := a1_q3 hni hgi R1 R2 R3 R4 R5 R6 R7 R8 hA rfl (by omega) (by omega)
      exact tr2 (by omega) (by omega) (by omega) (by omega) hi (by omega) (fun hl => ⟨w1 hl, I1.mk (by have := w1 hl; exact ⟨by omega, by omega, by omega, by omega, by omega, by omega, by omega, by omega⟩) (w3 hl) hc hu hd, rfl⟩) (fun hl => ⟨I1.mk ⟨by omega, by omega, by omega, by omega, by omega, by omega, by omega, by omega⟩ (w4 hl) hc hu hd, rfl⟩)
    · have hr := hrU h1
      rw [h, h2]
      obtain ⟨w1, w2, w3, w4⟩ := a1_q4 hni hgi R1 R2 R3 R4 R5 R6 R7 R8 hA rfl (by omega) (by omega)
      exact tr1 (by omega) (by omega) (by omega) (by omega) hi (by omega) (fun hl => ⟨w1 hl, I1.mk (by have := w1 hl; exact ⟨by omega, by omega, by omega, by omega, by omega, by omega, by omega, by omega⟩) (w3 hl) hc hu hd, rfl⟩) (fun hl => ⟨I1.mk ⟨by omega, by omega, by omega, by omega, by omega, by omega, by omega, by omega⟩ (w4 hl) hc hu hd, rfl⟩)
  · have hab : (a || b) = true := by
      rcases Nat.lt_or_gt_of_ne hfg with hl | hl
      · rw [ht.1 hl]; rfl
      · rw [ht.2 hl, Bool.or_true]
    have hdir : (f < g → a = true) ∧ (g < f → b = true) := ht
    rcases S1 dir (by omega) o (by omega) A U D a b l' hab with ⟨h, h1, h3, h2⟩ | ⟨h, h1, h3, h2⟩ | ⟨h, h1, h3, h2⟩ | ⟨h, h1, h3, h2⟩
    all_goals have hfi : (f : Int) ≠ g := by omega
    · have hr := hrU h1
      have h4 : (g : Int) < f → (dir : Int) ≠ 2 := fun hl hd => h3 ⟨by omega, ht.2 (by omega)⟩
      rw [h, h2]
      obtain ⟨w1, w2, w3, w4⟩ := a1_m1 hni hgi R1 R2 R3 R4 R5 R6 R7 R8 hA hfi (by omega) h4
      exact tr1 (by omega) (by omega) (by omega) (by omega) hi (by omega) (fun hl => ⟨w1 hl, I1.mk (by have := w1 hl; exact ⟨by omega, by omega, by omega, by omega, by omega, by omega, by omega, by omega⟩) (w3 hl) hc hu hd, rfl⟩) (fun hl => ⟨I1.mk ⟨by omega, by omega, by omega, by omega, by omega, by omega, by omega, by omega⟩ (w4 hl) hc hu hd, rfl⟩)
    · have hr := hrD h1
      have h4 : (f : Int) < g → (dir : Int) ≠ 1 := fun hl hd => h3 ⟨by omega, ht.1 (by omega)⟩
      rw [h, h2]
      obtain ⟨w1, w2, w3, w4⟩ := a1_m2 hni hgi R1 R2 R3 R4 R5 R6 R7 R8 hA hfi (by omega) h4
      exact tr2 (by omega) (by omega) (by omega) (by omega) hi (by omega) (fun hl => ⟨w1 hl, I1.mk (by have := w1 hl; exact ⟨by omega, by omega, by omega, by omega, by omega, by omega, by omega, by omega⟩) (w3 hl) hc hu hd, rfl⟩) (fun hl => ⟨I1.mk ⟨by omega, by omega, by omega, by omega, by omega, by omega, by omega, by omega⟩ (w4 hl) hc hu hd, rfl⟩)
    · have h4 : (g : Int) < f → (dir : Int) ≠ 2 := fun hl hd => h3 ⟨by omega, ht.2 (by omega)⟩
      rw [h, h2]
      exact tr3 (by omega) (by omega) (by omega) hi (fun hx => ⟨by omega, by omega, by omega, I1.mk ⟨by omega, by omega, by omega, by omega, by omega, by omega, by omega, by omega⟩ (a1_o1 hni hgi R1 R2 R3 R4 R5 R6 R7 R8 hA hfi (by omega) h4) (hW1 _ _) (hW1 _ _) (hW1 _ _), rfl⟩)
    · have h4 : (f : Int) < g → (dir : Int) ≠ 1 := fun hl hd => h3 ⟨by omega, ht.1 (by omega)⟩
      rw [h, h2]
      exact tr3 (by omega) (by omega) (by omega) hi (fun hx => ⟨by omega, by omega, by omega, I1.mk ⟨by omega, by omega, by omega, by omega, by omega, by omega, by omega, by omega⟩ (a1_o2 hni hgi R1 R2 R3 R4 R5 R6 R7 R8 hA hfi (by omega) h4) (hW1 _ _) (hW1 _ _) (hW1 _ _), rfl⟩)
theorem serves1 (l : List (Int × Int × Int)) {n g : Nat} (hn2 : 2 ≤ n) (hn : n ≤ 10) (hg : g + 1 < n) (x : XS) (hx : I1 n g x) :
    Good (fun y => I1 n g y ∧ mu5_10 (l, (n : Int), (g : Int), 1) y < mu5_10 (l, (n : Int), (g : Int), 1) x) (st5_10 (l, (n : Int), (g : Int), 1) x) := by
  obtain ⟨f, last, turns, moves, opens, i, ⟨dir, o⟩, car, up, down⟩ := x
  obtain ⟨R, hA, hc, hu, hd⟩ := hx
  rw [round_serves]
  simp only at R hA
  have hi : i < 400 := (a1_i (by omega) (by omega) R.f R.last R.turns R.moves R.opens R.i R.dir R.o hA).1
  have h0 := R.i
  simp only at R hA hc hu hd h0
  rw [show decide (i < 400) = true from by simp; omega, cond_true]
  have key : ∀ c u d : Int, W c → W u → W d → Good (fun y => I1 n g y ∧ mu5_10 (l, (n : Int), (g : Int), 1) y < mu5_10 (l, (n : Int), (g : Int), 1) (f, last, turns, moves, opens, i, (dir, o), car, up, down))
      (tR (l, (n : Int), (g : Int), 1) (F9 ((n : Int), (dir, o), f, c, F12 ((u, d), F13 ((g : Int), 1)))) (F14 ((n : Int), (dir, o), f, c, F12 ((u, d), F13 ((g : Int), 1)))) f last turns moves opens i c (F12 ((u, d), F13 ((g : Int), 1)))) := by
    intro c u d hc hu hd
    have hr := round1 l hn2 hn hg (c := c) (u := (F12 ((u, d), F13 ((g : Int), 1))).1) (d := (F12 ((u, d), F13 ((g : Int), 1))).2) R hA hc (W_union _).1 (W_union _).2 (by
      rw [one_up g (by omega)]
      show bit (or32 u (shl32 1 (g : Int))) g = true
      rw [bit_or hu.1 (W_shl _ _).1 g (by omega), bit_one g g (by omega)]; simp)
    have hr' : Good (fun y => I1 n g y ∧ y.2.2.2.2.2.1 = i + 1) (tR (l, (n : Int), (g : Int), 1) (F9 ((n : Int), (dir, o), f, c, F12 ((u, d), F13 ((g : Int), 1)))) (F14 ((n : Int), (dir, o), f, c, F12 ((u, d), F13 ((g : Int), 1)))) f last turns moves opens i c (F12 ((u, d), F13 ((g : Int), 1)))) := hr
    generalize tR (l, (n : Int), (g : Int), 1) (F9 ((n : Int), (dir, o), f, c, F12 ((u, d), F13 ((g : Int), 1)))) (F14 ((n : Int), (dir, o), f, c, F12 ((u, d), F13 ((g : Int), 1)))) f last turns moves opens i c (F12 ((u, d), F13 ((g : Int), 1))) = B at hr' ⊢
    cases B with
    | next k' y =>
      refine ⟨hr'.1, ?_⟩
      show ((400 : Int) - y.2.2.2.2.2.1).toNat < ((400 : Int) - i).toNat
      rw [hr'.2]; omega
    | brk k' y => exact hr'
    | ret r => exact hr'
  cases hl : decide (i < (l.length : Int)) with
  | true =>
    rw [cond_true]
    exact key _ _ _ (W_or _ _) (W_union _).1 (W_union _).2
  | false =>
    rw [cond_false]
    exact key _ _ _ hc hu hd

/-- What holds before every round. -/
def I2 (n g : Int) (x : XS) : Prop := Rg n x.1 x.2.1 x.2.2.1 x.2.2.2.1 x.2.2.2.2.1 x.2.2.2.2.2.1 x.2.2.2.2.2.2.1.1 x.2.2.2.2.2.2.1.2 ∧ A2 n g x.1 x.2.1 x.2.2.1 x.2.2.2.1 x.2.2.2.2.1 x.2.2.2.2.2.1 x.2.2.2.2.2.2.1.1 x.2.2.2.2.2.2.1.2 ∧ W x.2.2.2.2.2.2.2.1 ∧ W x.2.2.2.2.2.2.2.2.1 ∧ W x.2.2.2.2.2.2.2.2.2
theorem I2.mk {n g f last turns moves opens i dir o c u d : Int} (R : Rg n f last turns moves opens i dir o) (a : A2 n g f last turns moves opens i dir o) (hc : W c) (hu : W u) (hd : W d) : I2 n g (f, last, turns, moves, opens, i, (dir, o), c, u, d) := ⟨R, a, hc, hu, hd⟩
set_option maxHeartbeats 4000000 in
theorem round2 (l : List (Int × Int × Int)) {n g : Nat} (hn2 : 2 ≤ n) (hn : n ≤ 10) (hg : 0 < g ∧ g < n) {f last turns moves opens i dir o c u d : Int}
    (R : Rg n f last turns moves opens i dir o) (hA : A2 n g f last turns moves opens i dir o) (hc : W c) (hu : W u) (hd : W d) (hb : (bit d g = true)) :
    Good (fun y => I2 n g y ∧ y.2.2.2.2.2.1 = i + 1) (tR (l, (n : Int), (g : Int), 2) (F9 ((n : Int), (dir, o), f, c, u, d)) (F14 ((n : Int), (dir, o), f, c, u, d)) f last turns moves opens i c (u, d)) := by
  obtain ⟨f, rfl⟩ := Int.eq_ofNat_of_zero_le R.f.1
  obtain ⟨dir, rfl⟩ := Int.eq_ofNat_of_zero_le R.dir.1
  obtain ⟨o, rfl⟩ := Int.eq_ofNat_of_zero_le R.o.1
  have hok : Ok n f (dir : Int) (o : Int) c u d := ⟨hn2, by omega, by have := R.f; omega, R.dir, R.o, hc, hu, hd⟩
  obtain ⟨ab, be, s, hC, hN⟩ := Choose_ch hok
  have hat : isAt n c u d g = true := by
    unfold isAt
    rw [bit_cD (by omega) hd, hb]
    simp; omega
  have ht := tgt hok s (show g < n by omega) hat
  have hrU := fun h => up_room hok s h
  have hrD := fun h => down_room s h
  rw [hC, hN]
  have hW1 := fun x y => W_nand x y
  have R1 := R.f; have R2 := R.last; have R3 := R.turns; have R4 := R.moves; have R5 := R.opens; have R6 := R.i; have R7 := R.dir; have R8 := R.o
  have hT : f = g → bit (cD n d) f = true := fun h => by
    rw [h, bit_cD (by omega) hd, hb]; simp; omega
  generalize (bit (cA n c) f) = A at hT ⊢
  generalize (bit (cU n u) f) = U at hT ⊢
  generalize (bit (cD n d) f) = D at hT ⊢
  generalize decide (0 < ab) = a at ht hrU ⊢
  generalize decide (0 < be) = b at ht hrD ⊢
  generalize decide (be ≥ ab) = l' at ⊢
  have hgi : (0 : Int) < g ∧ (g : Int) < n := by omega
  have hni : (2 : Int) ≤ n ∧ (n : Int) ≤ 10 := by omega
  obtain ⟨i1, i2, i3⟩ := a2_i hni hgi R1 R2 R3 R4 R5 R6 R7 R8 hA
  have hi : (0 : Int) ≤ i ∧ i < 400 := ⟨R6, i1⟩
  by_cases hfg : f = g
  · have hT2 := hT hfg
    clear hT
    subst hfg
    subst hT2
    rcases S2d dir (by omega) o (by omega) A U a b l' with h | ⟨h0, h, h1, h2⟩ | ⟨h0, h1, h, h2⟩ | ⟨h0, h, h1, h2⟩ | ⟨h0, h, h1, h2⟩
    · rw [h]
      exact tr3 (by omega) (by omega) (by omega) hi (fun hx => absurd ⟨rfl, rfl⟩ hx)
    · rw [h, h2]
      exact tr3 (by omega) (by omega) (by omega) hi (fun hx => ⟨by omega, by omega, by omega, I2.mk ⟨by omega, by omega, by omega, by omega, by omega, by omega, by omega, by omega⟩ (a2_q1 hni hgi R1 R2 R3 R4 R5 R6 R7 R8 hA rfl (by omega) (by omega)) (hW1 _ _) (hW1 _ _) (hW1 _ _), rfl⟩)
    · rw [h, h2]
      exact tr3 (by omega) (by omega) (by omega) hi (fun hx => ⟨by omega, by omega, by omega, I2.mk ⟨by omega, by omega, by omega, by omega, by omega, by omega, by omega, by omega⟩ (a2_q2 hni hgi R1 R2 R3 R4 R5 R6 R7 R8 hA rfl (by omega) (by omega)) (hW1 _ _) (hW1 _ _) (hW1 _ _), rfl⟩)
    · have hr := hrU h1
      rw [h, h2]
      obtain ⟨w1, w2, w3, w4⟩ := a2_q3 hni hgi R1 R2 R3 R4 R5 R6 R7 R8 hA rfl (by omega) (by omega)
      exact tr1 (by omega) (by omega) (by omega) (by omega) hi (by omega) (fun hl => ⟨w1 hl, I2.mk (by have := w1 hl; exact ⟨by omega, by omega, by omega, by omega, by omega, by omega, by omega, by omega⟩) (w3 hl) hc hu hd, rfl⟩) (fun hl => ⟨I2.mk ⟨by omega, by omega, by omega, by omega, by omega, by omega, by omega, by omega⟩ (w4 hl) hc hu hd, rfl⟩)
    · have hr := hrD h1
      rw [h, h2]
      obtain ⟨w1, w2, w3, w4⟩ := a2_q4 hni hgi R1 R2 R3 R4 R5 R6 R7 R8 hA rfl (by omega) (by omega)
      exact tr2 (by omega) (by omega) (by omega) (by omega) hi (by omega) (fun hl => ⟨w1 hl, I2.mk (by have := w1 hl; exact ⟨by omega, by omega, by omega, by omega, by omega, by omega, by omega, by omega⟩) (w3 hl) hc hu hd, rfl⟩) (fun hl => ⟨I2.mk ⟨by omega, by omega, by omega, by omega, by omega, by omega, by omega, by omega⟩ (w4 hl) hc hu hd, rfl⟩)
  · have hab : (a || b) = true := by
      rcases Nat.lt_or_gt_of_ne hfg with hl | hl
      · rw [ht.1 hl]; rfl
      · rw [ht.2 hl, Bool.or_true]
    have hdir : (f < g → a = true) ∧ (g < f → b = true) := ht
    rcases S1 dir (by omega) o (by omega) A U D a b l' hab with ⟨h, h1, h3, h2⟩ | ⟨h, h1, h3, h2⟩ | ⟨h, h1, h3, h2⟩ | ⟨h, h1, h3, h2⟩
    all_goals have hfi : (f : Int) ≠ g := by omega
    · have hr := hrU h1
      have h4 : (g : Int) < f → (dir : Int) ≠ 2 := fun hl hd => h3 ⟨by omega, ht.2 (by omega)⟩
      rw [h, h2]
      obtain ⟨w1, w2, w3, w4⟩ := a2_m1 hni hgi R1 R2 R3 R4 R5 R6 R7 R8 hA hfi (by omega) h4
      exact tr1 (by omega) (by omega) (by omega) (by omega) hi (by omega) (fun hl => ⟨w1 hl, I2.mk (by have := w1 hl; exact ⟨by omega, by omega, by omega, by omega, by omega, by omega, by omega, by omega⟩) (w3 hl) hc hu hd, rfl⟩) (fun hl => ⟨I2.mk ⟨by omega, by omega, by omega, by omega, by omega, by omega, by omega, by omega⟩ (w4 hl) hc hu hd, rfl⟩)
    · have hr := hrD h1
      have h4 : (f : Int) < g → (dir : Int) ≠ 1 := fun hl hd => h3 ⟨by omega, ht.1 (by omega)⟩
      rw [h, h2]
      obtain ⟨w1, w2, w3, w4⟩ := a2_m2 hni hgi R1 R2 R3 R4 R5 R6 R7 R8 hA hfi (by omega) h4
      exact tr2 (by omega) (by omega) (by omega) (by omega) hi (by omega) (fun hl => ⟨w1 hl, I2.mk (by have := w1 hl; exact ⟨by omega, by omega, by omega, by omega, by omega, by omega, by omega, by omega⟩) (w3 hl) hc hu hd, rfl⟩) (fun hl => ⟨I2.mk ⟨by omega, by omega, by omega, by omega, by omega, by omega, by omega, by omega⟩ (w4 hl) hc hu hd, rfl⟩)
    · have h4 : (g : Int) < f → (dir : Int) ≠ 2 := fun hl hd => h3 ⟨by omega, ht.2 (by omega)⟩
      rw [h, h2]
      exact tr3 (by omega) (by omega) (by omega) hi (fun hx => ⟨by omega, by omega, by omega, I2.mk ⟨by omega, by omega, by omega, by omega, by omega, by omega, by omega, by omega⟩ (a2_o1 hni hgi R1 R2 R3 R4 R5 R6 R7 R8 hA hfi (by omega) h4) (hW1 _ _) (hW1 _ _) (hW1 _ _), rfl⟩)
    · have h4 : (f : Int) < g → (dir : Int) ≠ 1 := fun hl hd => h3 ⟨by omega, ht.1 (by omega)⟩
      rw [h, h2]
      exact tr3 (by omega) (by omega) (by omega) hi (fun hx => ⟨by omega, by omega, by omega, I2.mk ⟨by omega, by omega, by omega, by omega, by omega, by omega, by omega, by omega⟩ (a2_o2 hni hgi R1 R2 R3 R4 R5 R6 R7 R8 hA hfi (by omega) h4) (hW1 _ _) (hW1 _ _) (hW1 _ _), rfl⟩)
theorem serves2 (l : List (Int × Int × Int)) {n g : Nat} (hn2 : 2 ≤ n) (hn : n ≤ 10) (hg : 0 < g ∧ g < n) (x : XS) (hx : I2 n g x) :
    Good (fun y => I2 n g y ∧ mu5_10 (l, (n : Int), (g : Int), 2) y < mu5_10 (l, (n : Int), (g : Int), 2) x) (st5_10 (l, (n : Int), (g : Int), 2) x) := by
  obtain ⟨f, last, turns, moves, opens, i, ⟨dir, o⟩, car, up, down⟩ := x
  obtain ⟨R, hA, hc, hu, hd⟩ := hx
  rw [round_serves]
  simp only at R hA
  have hi : i < 400 := (a2_i (by omega) (by omega) R.f R.last R.turns R.moves R.opens R.i R.dir R.o hA).1
  have h0 := R.i
  simp only at R hA hc hu hd h0
  rw [show decide (i < 400) = true from by simp; omega, cond_true]
  have key : ∀ c u d : Int, W c → W u → W d → Good (fun y => I2 n g y ∧ mu5_10 (l, (n : Int), (g : Int), 2) y < mu5_10 (l, (n : Int), (g : Int), 2) (f, last, turns, moves, opens, i, (dir, o), car, up, down))
      (tR (l, (n : Int), (g : Int), 2) (F9 ((n : Int), (dir, o), f, c, F12 ((u, d), F13 ((g : Int), 2)))) (F14 ((n : Int), (dir, o), f, c, F12 ((u, d), F13 ((g : Int), 2)))) f last turns moves opens i c (F12 ((u, d), F13 ((g : Int), 2)))) := by
    intro c u d hc hu hd
    have hr := round2 l hn2 hn hg (c := c) (u := (F12 ((u, d), F13 ((g : Int), 2))).1) (d := (F12 ((u, d), F13 ((g : Int), 2))).2) R hA hc (W_union _).1 (W_union _).2 (by
      rw [one_down g (by omega)]
      show bit (or32 d (shl32 1 (g : Int))) g = true
      rw [bit_or hd.1 (W_shl _ _).1 g (by omega), bit_one g g (by omega)]; simp)
    have hr' : Good (fun y => I2 n g y ∧ y.2.2.2.2.2.1 = i + 1) (tR (l, (n : Int), (g : Int), 2) (F9 ((n : Int), (dir, o), f, c, F12 ((u, d), F13 ((g : Int), 2)))) (F14 ((n : Int), (dir, o), f, c, F12 ((u, d), F13 ((g : Int), 2)))) f last turns moves opens i c (F12 ((u, d), F13 ((g : Int), 2)))) := hr
    generalize tR (l, (n : Int), (g : Int), 2) (F9 ((n : Int), (dir, o), f, c, F12 ((u, d), F13 ((g : Int), 2)))) (F14 ((n : Int), (dir, o), f, c, F12 ((u, d), F13 ((g : Int), 2)))) f last turns moves opens i c (F12 ((u, d), F13 ((g : Int), 2))) = B at hr' ⊢
    cases B with
    | next k' y =>
      refine ⟨hr'.1, ?_⟩
      show ((400 : Int) - y.2.2.2.2.2.1).toNat < ((400 : Int) - i).toNat
      rw [hr'.2]; omega
    | brk k' y => exact hr'
    | ret r => exact hr'
  cases hl : decide (i < (l.length : Int)) with
  | true =>
    rw [cond_true]
    exact key _ _ _ (W_or _ _) (W_union _).1 (W_union _).2
  | false =>
    rw [cond_false]
    exact key _ _ _ hc hu hd

theorem tmod8 (p : Int) : 0 ≤ IntKind.i64.wrap (Int.tmod (IntKind.u64.wrap p) 8) ∧ IntKind.i64.wrap (Int.tmod (IntKind.u64.wrap p) 8) ≤ 7 := by
  have h0 : 0 ≤ IntKind.u64.wrap p := by rw [IntKind.wrap_u64]; omega
  rw [tmod_lit, if_pos h0, wrap_i64_of (by omega) (by omega)]; omega
theorem tmod3 (p : Int) : 0 ≤ IntKind.i64.wrap (Int.tmod (IntKind.u64.wrap p) 3) ∧ IntKind.i64.wrap (Int.tmod (IntKind.u64.wrap p) 3) ≤ 2 := by
  have h0 : 0 ≤ IntKind.u64.wrap p := by rw [IntKind.wrap_u64]; omega
  rw [tmod_lit, if_pos h0, wrap_i64_of (by omega) (by omega)]; omega
/-- A remainder. -/
theorem rem_of {p : Int} (h0 : 0 ≤ p) (h1 : p ≤ 255) {m : Nat} (hm : 1 ≤ m) (hm' : m ≤ 40) : ∃ r : Nat, r < m ∧ Int.tmod (IntKind.i64.wrap p) (m : Int) = (r : Int) := by
  rw [wrap_i64_of (x := p) (by omega) (by omega), Int.tmod_eq_emod_of_nonneg h0]
  have h1 := Int.emod_nonneg p (show (m : Int) ≠ 0 by omega)
  have h2 := Int.emod_lt_of_pos p (show (0 : Int) < m by omega)
  exact ⟨(p % (m : Int)).toNat, by omega, by omega⟩
theorem law_serves (x : ct5.p.den) (h : InR ct5.p x) : ct5.F x = true := by
  obtain ⟨⟨⟨dir, o⟩, fl⟩, ⟨x0, x1, x2⟩, l⟩ := x
  obtain ⟨_, ⟨h0, h1, h2⟩, _⟩ := h
  have h0 := u8_of h0
  have h1 := u8_of h1
  show F5 (((dir, o), fl), (x0, x1, x2), l) = true
  unfold F5
  simp only
  obtain ⟨n, hn2, hn, hne⟩ := floors9 h0.1 h0.2
  obtain ⟨f, hf, hfe⟩ := floor_of fl (n := n) (by omega) (by omega)
  obtain ⟨r, hr, hre⟩ := rem_of h1.1 h1.2 (m := n - 1) (by omega) (by omega)
  rw [hne, hfe, wrap_i64_of (x := (n : Int) - 1) (by omega) (by omega), show (n : Int) - 1 = ((n - 1 : Nat) : Int) from by omega, hre, wrap_i64_of (x := (r : Int) + 1) (by omega) (by omega), show (r : Int) + 1 = ((r + 1 : Nat) : Int) from by omega]
  have t8 := tmod8 o
  have t3 := tmod3 dir
  generalize IntKind.i64.wrap (Int.tmod (IntKind.u64.wrap o) 8) = oo' at t8 ⊢
  generalize IntKind.i64.wrap (Int.tmod (IntKind.u64.wrap dir) 3) = dd at t3 ⊢
  have hd2 : R5_10 (l, (n : Int), ((r + 1 : Nat) : Int), 2) ((f : Int), 0, 0, 0, 0, 0, (dd, oo'), 0, 0, 0) = some true :=
    ret_good (I2 n (r + 1 : Nat)) (mu5_10 (l, (n : Int), ((r + 1 : Nat) : Int), 2)) (serves2 l hn2 hn ⟨by omega, by omega⟩) _ _
      (I2.mk ⟨by omega, by omega, by omega, by omega, by omega, by omega, by omega, by omega⟩ (by unfold A2; omega) W.zero W.zero W.zero) (Nat.lt_succ_self _)
  have hd1 : R5_10 (l, (n : Int), (r : Int), 1) ((f : Int), 0, 0, 0, 0, 0, (dd, oo'), 0, 0, 0) = some true :=
    ret_good (I1 n r) (mu5_10 (l, (n : Int), (r : Int), 1)) (serves1 l hn2 hn (by omega)) _ _
      (I1.mk ⟨by omega, by omega, by omega, by omega, by omega, by omega, by omega, by omega⟩ (by unfold A1; omega) W.zero W.zero W.zero) (Nat.lt_succ_self _)
  rw [hd1, hd2]
  simp only [optR_some]
  cases (Int.tmod x2 2 == 1) <;> rfl
end Go.Proofs.YtidnlehjabhclaaDoor.Sp
