/- Collective: a car call that stays is served before the second turn (own work, written by gen_col_i.py). -/
import Derived.Test.YtidnlehjabhclaaDoorCf
namespace Go.Proofs.YtidnlehjabhclaaDoor.Sp
open Go Sy
set_option linter.unusedVariables false
set_option linter.unusedSimpArgs false
set_option maxRecDepth 10000

abbrev KC := List (Int × Int × Int) × Int × Int
abbrev XC := Int × Int × Int × Int × (Int × Int) × Int × Int × Int
def tX (k : KC) (C : Int × Int × Int) (N : Int × Int) (f last turns i car : Int) (hall : Int × Int) : BOut KC XC Bool :=
  bif C.1 == 3 then
    (bif f == k.2.2 then BOut.ret (decide (turns ≤ 1) && F11 ())
     else bif (decide (f < 0) || decide (f ≥ k.2.1)) || decide (turns > 1) then BOut.ret false
     else BOut.next k (f, last, turns, IntKind.i64.wrap (i + 1), N, nand32 car (shl32 1 (IntKind.u64.wrap f)), F15 (hall, F13 (f, C.2.2))))
  else bif C.1 == 1 then
    (bif (decide (IntKind.i64.wrap (f + 1) < 0) || decide (IntKind.i64.wrap (f + 1) ≥ k.2.1)) || decide (turns > 1) then BOut.ret false
     else BOut.next k (IntKind.i64.wrap (f + 1), last, turns, IntKind.i64.wrap (i + 1), N, car, hall))
  else bif C.1 == 2 then
    (bif (decide (IntKind.i64.wrap (f - 1) < 0) || decide (IntKind.i64.wrap (f - 1) ≥ k.2.1)) || decide (turns > 1) then BOut.ret false
     else BOut.next k (IntKind.i64.wrap (f - 1), last, turns, IntKind.i64.wrap (i + 1), N, car, hall))
  else BOut.ret false
def tR (k : KC) (C : Int × Int × Int) (N : Int × Int) (f last turns i car : Int) (hall : Int × Int) : BOut KC XC Bool :=
  bif (C.1 == 1) || (C.1 == 2) then
    (bif (last != 0) && (last != C.1) then tX k C N f C.1 (IntKind.i64.wrap (turns + 1)) i car hall else tX k C N f C.1 turns i car hall)
  else tX k C N f last turns i car hall
theorem round_carries (l : List (Int × Int × Int)) (n g f last turns i : Int) (w : Int × Int) (car : Int) (hall : Int × Int) :
    st6_8 (l, n, g) (f, last, turns, i, w, car, hall) =
      bif decide (i < 400) then
        (bif decide (i < (l.length : Int)) then
          tR (l, n, g) (F9 (n, w, f, or32 (or32 car (nthT l i).1) (shl32 1 (IntKind.u64.wrap g)), F12 (hall, (nthT l i).2))) (F14 (n, w, f, or32 (or32 car (nthT l i).1) (shl32 1 (IntKind.u64.wrap g)), F12 (hall, (nthT l i).2))) f last turns i (or32 (or32 car (nthT l i).1) (shl32 1 (IntKind.u64.wrap g))) (F12 (hall, (nthT l i).2))
        else tR (l, n, g) (F9 (n, w, f, or32 car (shl32 1 (IntKind.u64.wrap g)), hall)) (F14 (n, w, f, or32 car (shl32 1 (IntKind.u64.wrap g)), hall)) f last turns i (or32 car (shl32 1 (IntKind.u64.wrap g))) hall)
      else BOut.brk (l, n, g) (f, last, turns, i, w, car, hall) := rfl
def Good {K X : Type} (P : X → Prop) (b : BOut K X Bool) : Prop := match b with | .next _ y => P y | .brk _ _ => False | .ret r => r = true
theorem ret_good {K X : Type} {step : K → X → BOut K X Bool} {k : K} (I : X → Prop) (mu : X → Nat) (h : ∀ x, I x → Good (fun y => I y ∧ mu y < mu x) (step k x)) (m : Nat) (x : X) (hx : I x) (hm : mu x < m) : retOf step k m x = some true := by
  refine loop_spec I mu (fun o _ => o = some true) (fun x hx => ?_) m x hx hm
  have := h x hx
  cases hs : step k x with
  | next k' y => rw [hs] at this; exact this
  | brk k' y => rw [hs] at this; exact this.elim
  | ret r => rw [hs] at this; exact congrArg some this
section
variable {l : List (Int × Int × Int)} {n g f last turns i car : Int} {N : Int × Int} {hall : Int × Int} {P : XC → Prop}
theorem tr1 (hf : 0 ≤ f ∧ f + 1 < n) (hn : n ≤ 10) (ht : 0 ≤ turns ∧ turns ≤ 1) (hi : 0 ≤ i ∧ i < 400) (hl : 0 ≤ last ∧ last ≤ 2)
    (h1 : last = 2 → turns ≤ 0 ∧ P (f + 1, 1, turns + 1, i + 1, N, car, hall)) (h2 : last ≠ 2 → P (f + 1, 1, turns, i + 1, N, car, hall)) :
    Good P (tR (l, n, g) (1, 1, 0) N f last turns i car hall) := by
  have e1 : IntKind.i64.wrap (f + 1) = f + 1 := wrap_i64_of (by omega) (by omega)
  have e2 : IntKind.i64.wrap (turns + 1) = turns + 1 := wrap_i64_of (by omega) (by omega)
  have e4 : IntKind.i64.wrap (i + 1) = i + 1 := wrap_i64_of (by omega) (by omega)
  have g1 : decide (f + 1 < 0) = false := by simp; omega
  have g2 : decide (f + 1 ≥ n) = false := by simp; omega
  have g4 : decide (turns > 1) = false := by simp; omega
  unfold tR tX
  simp only [e1, e2, e4, g1, g2, g4, show ((1 : Int) == 1) = true from rfl, show ((1 : Int) == 3) = false from rfl, show ((1 : Int) == 2) = false from rfl, cond_true, cond_false, Bool.true_or, Bool.or_false, Bool.false_or]
  by_cases h : last = 2
  · have g5 : decide (turns + 1 > 1) = false := by have := (h1 h).1; simp; omega
    subst h
    rw [show (((2 : Int) != 0) && ((2 : Int) != 1)) = true from rfl, cond_true, g5, cond_false]
    exact (h1 rfl).2
  · have : ((last != 0) && (last != 1)) = false := by
      have : last = 0 ∨ last = 1 := by omega
      rcases this with rfl | rfl <;> rfl
    rw [this, cond_false]
    exact h2 h
theorem tr2 (hf : 0 < f ∧ f < n) (hn : n ≤ 10) (ht : 0 ≤ turns ∧ turns ≤ 1) (hi : 0 ≤ i ∧ i < 400) (hl : 0 ≤ last ∧ last ≤ 2)
    (h1 : last = 1 → turns ≤ 0 ∧ P (f - 1, 2, turns + 1, i + 1, N, car, hall)) (h2 : last ≠ 1 → P (f - 1, 2, turns, i + 1, N, car, hall)) :
    Good P (tR (l, n, g) (2, 2, 0) N f last turns i car hall) := by
  have e1 : IntKind.i64.wrap (f - 1) = f - 1 := wrap_i64_of (by omega) (by omega)
  have e2 : IntKind.i64.wrap (turns + 1) = turns + 1 := wrap_i64_of (by omega) (by omega)
  have e4 : IntKind.i64.wrap (i + 1) = i + 1 := wrap_i64_of (by omega) (by omega)
  have g1 : decide (f - 1 < 0) = false := by simp; omega
  have g2 : decide (f - 1 ≥ n) = false := by simp; omega
  have g4 : decide (turns > 1) = false := by simp; omega
  unfold tR tX
  simp only [e1, e2, e4, g1, g2, g4, show ((2 : Int) == 1) = false from rfl, show ((2 : Int) == 3) = false from rfl, show ((2 : Int) == 2) = true from rfl, cond_true, cond_false, Bool.or_true, Bool.or_false, Bool.false_or]
  by_cases h : last = 1
  · have g5 : decide (turns + 1 > 1) = false := by have := (h1 h).1; simp; omega
    subst h
    rw [show (((1 : Int) != 0) && ((1 : Int) != 2)) = true from rfl, cond_true, g5, cond_false]
    exact (h1 rfl).2
  · have : ((last != 0) && (last != 2)) = false := by
      have : last = 0 ∨ last = 2 := by omega
      rcases this with rfl | rfl <;> rfl
    rw [this, cond_false]
    exact h2 h
theorem tr3 {p s : Int} (hf : 0 ≤ f ∧ f < n) (hn : n ≤ 10) (ht : 0 ≤ turns ∧ turns ≤ 1) (hi : 0 ≤ i ∧ i < 400)
    (h : f ≠ g → P (f, last, turns, i + 1, N, nand32 car (shl32 1 (IntKind.u64.wrap f)), F15 (hall, F13 (f, s)))) :
    Good P (tR (l, n, g) (3, p, s) N f last turns i car hall) := by
  have e4 : IntKind.i64.wrap (i + 1) = i + 1 := wrap_i64_of (by omega) (by omega)
  have g1 : decide (f < 0) = false := by simp; omega
  have g2 : decide (f ≥ n) = false := by simp; omega
  have g4 : decide (turns > 1) = false := by simp; omega
  have g7 : decide (turns ≤ 1) = true := by simp; omega
  unfold tR tX
  simp only [e4, g1, g2, g4, g7, show ((3 : Int) == 1) = false from rfl, show ((3 : Int) == 3) = true from rfl, show ((3 : Int) == 2) = false from rfl, cond_true, cond_false, Bool.or_false, Bool.false_or]
  by_cases hc : f = g
  · rw [hc, beq_self_eq_true, cond_true, sane_true]; rfl
  · rw [show (f == g) = false from by simp; exact hc, cond_false]
    exact h hc
end
theorem tgt {n f : Nat} {dir o c u d ab be : Int} (h : Ok n f dir o c u d) (s : Sc n f o c u d ab be) {g : Nat} (hg : g < n) (hb : isAt n c u d g = true) : (f < g → decide (0 < ab) = true) ∧ (g < f → decide (0 < be) = true) := by
  have hb' : bit (cS (cA n c) (cU n u) (cD n d)) g = true := by rw [isAt_cS g (by have := h.n32; omega)]; exact hb
  exact ⟨fun hl => s.up_iff.2 ⟨g, hl, hb'⟩, fun hl => s.down_iff.2 ⟨g, hl, hb'⟩⟩
theorem W_union (a : (Int × Int) × Int × Int) : W (F12 a).1 ∧ W (F12 a).2 := ⟨W_or _ _, W_or _ _⟩
theorem W_minus (a : (Int × Int) × Int × Int) : W (F15 a).1 ∧ W (F15 a).2 := ⟨W_nand _ _, W_nand _ _⟩

/-- Numbers in range. -/
structure Rg (n f last turns i dir o : Int) : Prop where
  f : 0 ≤ f ∧ f < n
  last : 0 ≤ last ∧ last ≤ 2
  turns : 0 ≤ turns ∧ turns ≤ 1
  i : 0 ≤ i
  dir : 0 ≤ dir ∧ dir ≤ 2
  o : 0 ≤ o ∧ o ≤ 7
/-- How far the play has come. -/
def AC (n g f last turns i dir o : Int) : Prop :=
  ((dir = 0 ∨ (f = g ∧ o ≠ 0)) ∧ last = 0 ∧ turns = 0 ∧ i + 8 * n + 2 - (o % 4 / 2 + o / 4) < 400) ∨
  (dir = 1 ∧ f < g ∧ (turns = 0 ∨ (turns = 1 ∧ last ≠ 2)) ∧ i + 4 * (g - f) + 2 - (o % 4 / 2 + o / 4) < 400) ∨
  (dir = 2 ∧ g < f ∧ (turns = 0 ∨ (turns = 1 ∧ last ≠ 1)) ∧ i + 4 * (f - g) + 2 - (o % 4 / 2 + o / 4) < 400) ∨
  (f = g ∧ o = 0 ∧ turns ≤ 1 ∧ i + 2 < 400) ∨
  (dir = 1 ∧ g < f ∧ turns = 0 ∧ last ≠ 2 ∧ i + 4 * (2 * (n - 1) - f - g) + 2 - (o % 4 / 2 + o / 4) < 400) ∨
  (dir = 2 ∧ f < g ∧ turns = 0 ∧ last ≠ 1 ∧ i + 4 * (f + g) + 2 - (o % 4 / 2 + o / 4) < 400)
theorem c_i {n g f last turns i dir o : Int} (hn : 2 ≤ n ∧ n ≤ 10) (hg : 0 ≤ g ∧ g < n) (R1 : 0 ≤ f ∧ f < n) (R2 : 0 ≤ last ∧ last ≤ 2) (R3 : 0 ≤ turns ∧ turns ≤ 1) (R6 : 0 ≤ i) (R7 : 0 ≤ dir ∧ dir ≤ 2) (R8 : 0 ≤ o ∧ o ≤ 7) (hA : AC n g f last turns i dir o)  : i < 400 := by
  · rcases hA with hA | hA | hA | hA | hA | hA <;> omega
theorem c_m1 {n g f last turns i dir o : Int} (hn : 2 ≤ n ∧ n ≤ 10) (hg : 0 ≤ g ∧ g < n) (R1 : 0 ≤ f ∧ f < n) (R2 : 0 ≤ last ∧ last ≤ 2) (R3 : 0 ≤ turns ∧ turns ≤ 1) (R6 : 0 ≤ i) (R7 : 0 ≤ dir ∧ dir ≤ 2) (R8 : 0 ≤ o ∧ o ≤ 7) (hA : AC n g f last turns i dir o) (hne : f ≠ g) (hr : f + 1 < n) (h4 : g < f → dir ≠ 2) : (last = 2 → turns ≤ 0) ∧ (last = 2 → AC n g (f + 1) 1 (turns + 1) (i + 1) 1 0) ∧ (last ≠ 2 → AC n g (f + 1) 1 turns (i + 1) 1 0) := by
  refine ⟨?_, ?_, ?_⟩
  · rcases hA with hA | hA | hA | hA | hA | hA <;> omega
  · intro hl; rcases Int.lt_trichotomy g (f + 1) with hp | hp | hp <;> rcases hA with hA | hA | hA | hA | hA | hA <;> (first | exact (Or.inl ⟨by omega, by omega, by omega, by omega⟩) | exact Or.inr ((Or.inl ⟨by omega, by omega, by omega, by omega⟩)) | exact Or.inr (Or.inr ((Or.inl ⟨by omega, by omega, by omega, by omega⟩))) | exact Or.inr (Or.inr (Or.inr ((Or.inl ⟨by omega, by omega, by omega, by omega⟩)))) | exact Or.inr (Or.inr (Or.inr (Or.inr ((Or.inl ⟨by omega, by omega, by omega, by omega, by omega⟩))))) | exact Or.inr (Or.inr (Or.inr (Or.inr (Or.inr (⟨by omega, by omega, by omega, by omega, by omega⟩))))) | (exfalso; omega))
  · intro hl; rcases Int.lt_trichotomy g (f + 1) with hp | hp | hp <;> rcases hA with hA | hA | hA | hA | hA | hA <;> (first | exact (Or.inl ⟨by omega, by omega, by omega, by omega⟩) | exact Or.inr ((Or.inl ⟨by omega, by omega, by omega, by omega⟩)) | exact Or.inr (Or.inr ((Or.inl ⟨by omega, by omega, by omega, by omega⟩))) | exact Or.inr (Or.inr (Or.inr ((Or.inl ⟨by omega, by omega, by omega, by omega⟩)))) | exact Or.inr (Or.inr (Or.inr (Or.inr ((Or.inl ⟨by omega, by omega, by omega, by omega, by omega⟩))))) | exact Or.inr (Or.inr (Or.inr (Or.inr (Or.inr (⟨by omega, by omega, by omega, by omega, by omega⟩))))) | (exfalso; omega))
theorem c_m2 {n g f last turns i dir o : Int} (hn : 2 ≤ n ∧ n ≤ 10) (hg : 0 ≤ g ∧ g < n) (R1 : 0 ≤ f ∧ f < n) (R2 : 0 ≤ last ∧ last ≤ 2) (R3 : 0 ≤ turns ∧ turns ≤ 1) (R6 : 0 ≤ i) (R7 : 0 ≤ dir ∧ dir ≤ 2) (R8 : 0 ≤ o ∧ o ≤ 7) (hA : AC n g f last turns i dir o) (hne : f ≠ g) (hr : 0 < f) (h4 : f < g → dir ≠ 1) : (last = 1 → turns ≤ 0) ∧ (last = 1 → AC n g (f - 1) 2 (turns + 1) (i + 1) 2 0) ∧ (last ≠ 1 → AC n g (f - 1) 2 turns (i + 1) 2 0) := by
  refine ⟨?_, ?_, ?_⟩
  · rcases hA with hA | hA | hA | hA | hA | hA <;> omega
  · intro hl; rcases Int.lt_trichotomy g (f - 1) with hp | hp | hp <;> rcases hA with hA | hA | hA | hA | hA | hA <;> (first | exact (Or.inl ⟨by omega, by omega, by omega, by omega⟩) | exact Or.inr ((Or.inl ⟨by omega, by omega, by omega, by omega⟩)) | exact Or.inr (Or.inr ((Or.inl ⟨by omega, by omega, by omega, by omega⟩))) | exact Or.inr (Or.inr (Or.inr ((Or.inl ⟨by omega, by omega, by omega, by omega⟩)))) | exact Or.inr (Or.inr (Or.inr (Or.inr ((Or.inl ⟨by omega, by omega, by omega, by omega, by omega⟩))))) | exact Or.inr (Or.inr (Or.inr (Or.inr (Or.inr (⟨by omega, by omega, by omega, by omega, by omega⟩))))) | (exfalso; omega))
  · intro hl; rcases Int.lt_trichotomy g (f - 1) with hp | hp | hp <;> rcases hA with hA | hA | hA | hA | hA | hA <;> (first | exact (Or.inl ⟨by omega, by omega, by omega, by omega⟩) | exact Or.inr ((Or.inl ⟨by omega, by omega, by omega, by omega⟩)) | exact Or.inr (Or.inr ((Or.inl ⟨by omega, by omega, by omega, by omega⟩))) | exact Or.inr (Or.inr (Or.inr ((Or.inl ⟨by omega, by omega, by omega, by omega⟩)))) | exact Or.inr (Or.inr (Or.inr (Or.inr ((Or.inl ⟨by omega, by omega, by omega, by omega, by omega⟩))))) | exact Or.inr (Or.inr (Or.inr (Or.inr (Or.inr (⟨by omega, by omega, by omega, by omega, by omega⟩))))) | (exfalso; omega))
theorem c_o1 {n g f last turns i dir o : Int} (hn : 2 ≤ n ∧ n ≤ 10) (hg : 0 ≤ g ∧ g < n) (R1 : 0 ≤ f ∧ f < n) (R2 : 0 ≤ last ∧ last ≤ 2) (R3 : 0 ≤ turns ∧ turns ≤ 1) (R6 : 0 ≤ i) (R7 : 0 ≤ dir ∧ dir ≤ 2) (R8 : 0 ≤ o ∧ o ≤ 7) (hA : AC n g f last turns i dir o) (hne : f ≠ g) (hm : o % 4 < 2) (h4 : g < f → dir ≠ 2) : (AC n g f last turns (i + 1) 1 (o + 2)) := by
  · rcases Int.lt_trichotomy g (f) with hp | hp | hp <;> rcases hA with hA | hA | hA | hA | hA | hA <;> (first | exact (Or.inl ⟨by omega, by omega, by omega, by omega⟩) | exact Or.inr ((Or.inl ⟨by omega, by omega, by omega, by omega⟩)) | exact Or.inr (Or.inr ((Or.inl ⟨by omega, by omega, by omega, by omega⟩))) | exact Or.inr (Or.inr (Or.inr ((Or.inl ⟨by omega, by omega, by omega, by omega⟩)))) | exact Or.inr (Or.inr (Or.inr (Or.inr ((Or.inl ⟨by omega, by omega, by omega, by omega, by omega⟩))))) | exact Or.inr (Or.inr (Or.inr (Or.inr (Or.inr (⟨by omega, by omega, by omega, by omega, by omega⟩))))) | (exfalso; omega))
theorem c_o2 {n g f last turns i dir o : Int} (hn : 2 ≤ n ∧ n ≤ 10) (hg : 0 ≤ g ∧ g < n) (R1 : 0 ≤ f ∧ f < n) (R2 : 0 ≤ last ∧ last ≤ 2) (R3 : 0 ≤ turns ∧ turns ≤ 1) (R6 : 0 ≤ i) (R7 : 0 ≤ dir ∧ dir ≤ 2) (R8 : 0 ≤ o ∧ o ≤ 7) (hA : AC n g f last turns i dir o) (hne : f ≠ g) (hm : o < 4) (h4 : f < g → dir ≠ 1) : (AC n g f last turns (i + 1) 2 (o + 4)) := by
  · rcases Int.lt_trichotomy g (f) with hp | hp | hp <;> rcases hA with hA | hA | hA | hA | hA | hA <;> (first | exact (Or.inl ⟨by omega, by omega, by omega, by omega⟩) | exact Or.inr ((Or.inl ⟨by omega, by omega, by omega, by omega⟩)) | exact Or.inr (Or.inr ((Or.inl ⟨by omega, by omega, by omega, by omega⟩))) | exact Or.inr (Or.inr (Or.inr ((Or.inl ⟨by omega, by omega, by omega, by omega⟩)))) | exact Or.inr (Or.inr (Or.inr (Or.inr ((Or.inl ⟨by omega, by omega, by omega, by omega, by omega⟩))))) | exact Or.inr (Or.inr (Or.inr (Or.inr (Or.inr (⟨by omega, by omega, by omega, by omega, by omega⟩))))) | (exfalso; omega))
theorem c_q1 {n g f last turns i dir o : Int} (hn : 2 ≤ n ∧ n ≤ 10) (hg : 0 ≤ g ∧ g < n) (R1 : 0 ≤ f ∧ f < n) (R2 : 0 ≤ last ∧ last ≤ 2) (R3 : 0 ≤ turns ∧ turns ≤ 1) (R6 : 0 ≤ i) (R7 : 0 ≤ dir ∧ dir ≤ 2) (R8 : 0 ≤ o ∧ o ≤ 7) (hA : AC n g f last turns i dir o) (heq : f = g) (h0 : o ≠ 0) (hr : f + 1 < n) : (last = 2 → turns ≤ 0) ∧ (last = 2 → AC n g (f + 1) 1 (turns + 1) (i + 1) 1 0) ∧ (last ≠ 2 → AC n g (f + 1) 1 turns (i + 1) 1 0) := by
  refine ⟨?_, ?_, ?_⟩
  · rcases hA with hA | hA | hA | hA | hA | hA <;> omega
  · intro hl; rcases Int.lt_trichotomy g (f + 1) with hp | hp | hp <;> rcases hA with hA | hA | hA | hA | hA | hA <;> (first | exact (Or.inl ⟨by omega, by omega, by omega, by omega⟩) | exact Or.inr ((Or.inl ⟨by omega, by omega, by omega, by omega⟩)) | exact Or.inr (Or.inr ((Or.inl ⟨by omega, by omega, by omega, by omega⟩))) | exact Or.inr (Or.inr (Or.inr ((Or.inl ⟨by omega, by omega, by omega, by omega⟩)))) | exact Or.inr (Or.inr (Or.inr (Or.inr ((Or.inl ⟨by omega, by omega, by omega, by omega, by omega⟩))))) | exact Or.inr (Or.inr (Or.inr (Or.inr (Or.inr (⟨by omega, by omega, by omega, by omega, by omega⟩))))) | (exfalso; omega))
  · intro hl; rcases Int.lt_trichotomy g (f + 1) with hp | hp | hp <;> rcases hA with hA | hA | hA | hA | hA | hA <;> (first | exact (Or.inl ⟨by omega, by omega, by omega, by omega⟩) | exact Or.inr ((Or.inl ⟨by omega, by omega, by omega, by omega⟩)) | exact Or.inr (Or.inr ((Or.inl ⟨by omega, by omega, by omega, by omega⟩))) | exact Or.inr (Or.inr (Or.inr ((Or.inl ⟨by omega, by omega, by omega, by omega⟩)))) | exact Or.inr (Or.inr (Or.inr (Or.inr ((Or.inl ⟨by omega, by omega, by omega, by omega, by omega⟩))))) | exact Or.inr (Or.inr (Or.inr (Or.inr (Or.inr (⟨by omega, by omega, by omega, by omega, by omega⟩))))) | (exfalso; omega))
theorem c_q2 {n g f last turns i dir o : Int} (hn : 2 ≤ n ∧ n ≤ 10) (hg : 0 ≤ g ∧ g < n) (R1 : 0 ≤ f ∧ f < n) (R2 : 0 ≤ last ∧ last ≤ 2) (R3 : 0 ≤ turns ∧ turns ≤ 1) (R6 : 0 ≤ i) (R7 : 0 ≤ dir ∧ dir ≤ 2) (R8 : 0 ≤ o ∧ o ≤ 7) (hA : AC n g f last turns i dir o) (heq : f = g) (h0 : o ≠ 0) (hr : 0 < f) : (last = 1 → turns ≤ 0) ∧ (last = 1 → AC n g (f - 1) 2 (turns + 1) (i + 1) 2 0) ∧ (last ≠ 1 → AC n g (f - 1) 2 turns (i + 1) 2 0) := by
  refine ⟨?_, ?_, ?_⟩
  · rcases hA with hA | hA | hA | hA | hA | hA <;> omega
  · intro hl; rcases Int.lt_trichotomy g (f - 1) with hp | hp | hp <;> rcases hA with hA | hA | hA | hA | hA | hA <;> (first | exact (Or.inl ⟨by omega, by omega, by omega, by omega⟩) | exact Or.inr ((Or.inl ⟨by omega, by omega, by omega, by omega⟩)) | exact Or.inr (Or.inr ((Or.inl ⟨by omega, by omega, by omega, by omega⟩))) | exact Or.inr (Or.inr (Or.inr ((Or.inl ⟨by omega, by omega, by omega, by omega⟩)))) | exact Or.inr (Or.inr (Or.inr (Or.inr ((Or.inl ⟨by omega, by omega, by omega, by omega, by omega⟩))))) | exact Or.inr (Or.inr (Or.inr (Or.inr (Or.inr (⟨by omega, by omega, by omega, by omega, by omega⟩))))) | (exfalso; omega))
  · intro hl; rcases Int.lt_trichotomy g (f - 1) with hp | hp | hp <;> rcases hA with hA | hA | hA | hA | hA | hA <;> (first | exact (Or.inl ⟨by omega, by omega, by omega, by omega⟩) | exact Or.inr ((Or.inl ⟨by omega, by omega, by omega, by omega⟩)) | exact Or.inr (Or.inr ((Or.inl ⟨by omega, by omega, by omega, by omega⟩))) | exact Or.inr (Or.inr (Or.inr ((Or.inl ⟨by omega, by omega, by omega, by omega⟩)))) | exact Or.inr (Or.inr (Or.inr (Or.inr ((Or.inl ⟨by omega, by omega, by omega, by omega, by omega⟩))))) | exact Or.inr (Or.inr (Or.inr (Or.inr (Or.inr (⟨by omega, by omega, by omega, by omega, by omega⟩))))) | (exfalso; omega))
/-- What holds before every round. -/
def IC (n g : Int) (x : XC) : Prop := Rg n x.1 x.2.1 x.2.2.1 x.2.2.2.1 x.2.2.2.2.1.1 x.2.2.2.2.1.2 ∧ AC n g x.1 x.2.1 x.2.2.1 x.2.2.2.1 x.2.2.2.2.1.1 x.2.2.2.2.1.2 ∧ W x.2.2.2.2.2.1 ∧ W x.2.2.2.2.2.2.1 ∧ W x.2.2.2.2.2.2.2
theorem IC.mk {n g f last turns i dir o c u d : Int} (R : Rg n f last turns i dir o) (a : AC n g f last turns i dir o) (hc : W c) (hu : W u) (hd : W d) : IC n g (f, last, turns, i, (dir, o), c, u, d) := ⟨R, a, hc, hu, hd⟩
set_option maxHeartbeats 4000000 in
theorem roundC (l : List (Int × Int × Int)) {n g : Nat} (hn2 : 2 ≤ n) (hn : n ≤ 10) (hg : g < n) {f last turns i dir o c u d : Int}
    (R : Rg n f last turns i dir o) (hA : AC n g f last turns i dir o) (hc : W c) (hu : W u) (hd : W d) (hb : bit c g = true) :
    Good (fun y => IC n g y ∧ y.2.2.2.1 = i + 1) (tR (l, (n : Int), (g : Int)) (F9 ((n : Int), (dir, o), f, c, u, d)) (F14 ((n : Int), (dir, o), f, c, u, d)) f last turns i c (u, d)) := by
  obtain ⟨f, rfl⟩ := Int.eq_ofNat_of_zero_le R.f.1
  obtain ⟨dir, rfl⟩ := Int.eq_ofNat_of_zero_le R.dir.1
  obtain ⟨o, rfl⟩ := Int.eq_ofNat_of_zero_le R.o.1
  have hok : Ok n f (dir : Int) (o : Int) c u d := ⟨hn2, by omega, by have := R.f; omega, R.dir, R.o, hc, hu, hd⟩
  obtain ⟨ab, be, s, hC, hN⟩ := Choose_ch hok
  have hat : isAt n c u d g = true := by
    unfold isAt
    rw [bit_cA (by omega) hc, hb]
    simp; omega
  have ht := tgt hok s hg hat
  have hrU := fun h => up_room hok s h
  have hrD := fun h => down_room s h
  rw [hC, hN]
  have hW1 := fun x y => W_nand x y
  have R1 := R.f; have R2 := R.last; have R3 := R.turns; have R6 := R.i; have R7 := R.dir; have R8 := R.o
  have hT : f = g → bit (cA n c) f = true := fun h => by
    rw [h, bit_cA (by omega) hc, hb]; simp; omega
  generalize (bit (cA n c) f) = A at hT ⊢
  generalize (bit (cU n u) f) = U at ⊢
  generalize (bit (cD n d) f) = D at ⊢
  generalize decide (0 < ab) = a at ht hrU ⊢
  generalize decide (0 < be) = b at ht hrD ⊢
  generalize decide (be ≥ ab) = l' at ⊢
  have hgi : (0 : Int) ≤ g ∧ (g : Int) < n := by omega
  have hni : (2 : Int) ≤ n ∧ (n : Int) ≤ 10 := by omega
  have i1 := c_i hni hgi R1 R2 R3 R6 R7 R8 hA
  have hi : (0 : Int) ≤ i ∧ i < 400 := ⟨R6, i1⟩
  by_cases hfg : f = g
  · have hT2 := hT hfg
    clear hT
    subst hfg
    subst hT2
    rcases S3 dir (by omega) o (by omega) U D a b l' with h | ⟨h0, h, h1, h2⟩ | ⟨h0, h, h1, h2⟩
    · generalize ch (dir : Int) (o : Int) true U D a b l' = C at h ⊢
      obtain ⟨p, q, r⟩ := C
      simp only at h
      subst h
      exact tr3 (by omega) (by omega) (by omega) hi (fun hx => absurd rfl hx)
    · have hr := hrD h1
      rw [h, h2]
      obtain ⟨w1, w3, w4⟩ := c_q2 hni hgi R1 R2 R3 R6 R7 R8 hA rfl (by omega) (by omega)
      exact tr2 (by omega) (by omega) (by omega) hi (by omega) (fun hl => ⟨w1 hl, IC.mk (by have := w1 hl; exact ⟨by omega, by omega, by omega, by omega, by omega, by omega⟩) (w3 hl) hc hu hd, rfl⟩) (fun hl => ⟨IC.mk ⟨by omega, by omega, by omega, by omega, by omega, by omega⟩ (w4 hl) hc hu hd, rfl⟩)
    · have hr := hrU h1
      rw [h, h2]
      obtain ⟨w1, w3, w4⟩ := c_q1 hni hgi R1 R2 R3 R6 R7 R8 hA rfl (by omega) (by omega)
      exact tr1 (by omega) (by omega) (by omega) hi (by omega) (fun hl => ⟨w1 hl, IC.mk (by have := w1 hl; exact ⟨by omega, by omega, by omega, by omega, by omega, by omega⟩) (w3 hl) hc hu hd, rfl⟩) (fun hl => ⟨IC.mk ⟨by omega, by omega, by omega, by omega, by omega, by omega⟩ (w4 hl) hc hu hd, rfl⟩)
  · have hab : (a || b) = true := by
      rcases Nat.lt_or_gt_of_ne hfg with hl | hl
      · rw [ht.1 hl]; rfl
      · rw [ht.2 hl, Bool.or_true]
    have hfi : (f : Int) ≠ g := by omega
    rcases S1 dir (by omega) o (by omega) A U D a b l' hab with ⟨h, h1, h3, h2⟩ | ⟨h, h1, h3, h2⟩ | ⟨h, h1, h3, h2⟩ | ⟨h, h1, h3, h2⟩
    · have hr := hrU h1
      have h4 : (g : Int) < f → (dir : Int) ≠ 2 := fun hl hd => h3 ⟨by omega, ht.2 (by omega)⟩
      rw [h, h2]
      obtain ⟨w1, w3, w4⟩ := c_m1 hni hgi R1 R2 R3 R6 R7 R8 hA hfi (by omega) h4
      exact tr1 (by omega) (by omega) (by omega) hi (by omega) (fun hl => ⟨w1 hl, IC.mk (by have := w1 hl; exact ⟨by omega, by omega, by omega, by omega, by omega, by omega⟩) (w3 hl) hc hu hd, rfl⟩) (fun hl => ⟨IC.mk ⟨by omega, by omega, by omega, by omega, by omega, by omega⟩ (w4 hl) hc hu hd, rfl⟩)
    · have hr := hrD h1
      have h4 : (f : Int) < g → (dir : Int) ≠ 1 := fun hl hd => h3 ⟨by omega, ht.1 (by omega)⟩
      rw [h, h2]
      obtain ⟨w1, w3, w4⟩ := c_m2 hni hgi R1 R2 R3 R6 R7 R8 hA hfi (by omega) h4
      exact tr2 (by omega) (by omega) (by omega) hi (by omega) (fun hl => ⟨w1 hl, IC.mk (by have := w1 hl; exact ⟨by omega, by omega, by omega, by omega, by omega, by omega⟩) (w3 hl) hc hu hd, rfl⟩) (fun hl => ⟨IC.mk ⟨by omega, by omega, by omega, by omega, by omega, by omega⟩ (w4 hl) hc hu hd, rfl⟩)
    · have h4 : (g : Int) < f → (dir : Int) ≠ 2 := fun hl hd => h3 ⟨by omega, ht.2 (by omega)⟩
      rw [h, h2]
      exact tr3 (by omega) (by omega) (by omega) hi (fun hx => ⟨IC.mk ⟨by omega, by omega, by omega, by omega, by omega, by omega⟩ (c_o1 hni hgi R1 R2 R3 R6 R7 R8 hA hfi (by omega) h4) (hW1 _ _) (hW1 _ _) (hW1 _ _), rfl⟩)
    · have h4 : (f : Int) < g → (dir : Int) ≠ 1 := fun hl hd => h3 ⟨by omega, ht.1 (by omega)⟩
      rw [h, h2]
      exact tr3 (by omega) (by omega) (by omega) hi (fun hx => ⟨IC.mk ⟨by omega, by omega, by omega, by omega, by omega, by omega⟩ (c_o2 hni hgi R1 R2 R3 R6 R7 R8 hA hfi (by omega) h4) (hW1 _ _) (hW1 _ _) (hW1 _ _), rfl⟩)
theorem carriesC (l : List (Int × Int × Int)) {n g : Nat} (hn2 : 2 ≤ n) (hn : n ≤ 10) (hg : g < n) (x : XC) (hx : IC n g x) :
    Good (fun y => IC n g y ∧ mu6_8 (l, (n : Int), (g : Int)) y < mu6_8 (l, (n : Int), (g : Int)) x) (st6_8 (l, (n : Int), (g : Int)) x) := by
  obtain ⟨f, last, turns, i, ⟨dir, o⟩, car, up, down⟩ := x
  obtain ⟨R, hA, hc, hu, hd⟩ := hx
  rw [round_carries]
  simp only at R hA
  have hi : i < 400 := c_i (by omega) (by omega) R.f R.last R.turns R.i R.dir R.o hA
  have h0 := R.i
  simp only at hc hu hd h0
  rw [show decide (i < 400) = true from by simp; omega, cond_true, uwrap g (by omega)]
  have key : ∀ c u d : Int, W c → W u → W d → Good (fun y => IC n g y ∧ mu6_8 (l, (n : Int), (g : Int)) y < mu6_8 (l, (n : Int), (g : Int)) (f, last, turns, i, (dir, o), car, up, down))
      (tR (l, (n : Int), (g : Int)) (F9 ((n : Int), (dir, o), f, or32 c (shl32 1 (g : Int)), u, d)) (F14 ((n : Int), (dir, o), f, or32 c (shl32 1 (g : Int)), u, d)) f last turns i (or32 c (shl32 1 (g : Int))) (u, d)) := by
    intro c u d hc hu hd
    have hr := roundC l hn2 hn hg (c := or32 c (shl32 1 (g : Int))) (u := u) (d := d) R hA (W_or _ _) hu hd (by
      rw [bit_or hc.1 (W_shl _ _).1 g (by omega), bit_one g g (by omega)]; simp)
    generalize tR (l, (n : Int), (g : Int)) (F9 ((n : Int), (dir, o), f, or32 c (shl32 1 (g : Int)), u, d)) (F14 ((n : Int), (dir, o), f, or32 c (shl32 1 (g : Int)), u, d)) f last turns i (or32 c (shl32 1 (g : Int))) (u, d) = B at hr ⊢
    cases B with
    | next k' y =>
      refine ⟨hr.1, ?_⟩
      show ((400 : Int) - y.2.2.2.1).toNat < ((400 : Int) - i).toNat
      rw [hr.2]; omega
    | brk k' y => exact hr
    | ret r => exact hr
  cases hl : decide (i < (l.length : Int)) with
  | true =>
    rw [cond_true]
    exact key _ _ _ (W_or _ _) (W_union _).1 (W_union _).2
  | false =>
    rw [cond_false]
    exact key _ _ _ hc hu hd
theorem tmod8 (p : Int) : 0 ≤ IntKind.i64.wrap (Int.tmod (IntKind.u64.wrap p) 8) ∧ IntKind.i64.wrap (Int.tmod (IntKind.u64.wrap p) 8) ≤ 7 := by
  have h0 : 0 ≤ IntKind.u64.wrap p := by rw [IntKind.wrap_u64]; omega
  rw [tmod_lit, if_pos h0, wrap_i64_of (by omega) (by omega)]; omega
theorem tmod3 (p : Int) : 0 ≤ IntKind.i64.wrap (Int.tmod (IntKind.u64.wrap p) 3) ∧ IntKind.i64.wrap (Int.tmod (IntKind.u64.wrap p) 3) ≤ 2 := by
  have h0 : 0 ≤ IntKind.u64.wrap p := by rw [IntKind.wrap_u64]; omega
  rw [tmod_lit, if_pos h0, wrap_i64_of (by omega) (by omega)]; omega
/-- A remainder. -/
theorem rem_of {p : Int} (h0 : 0 ≤ p) (h1 : p ≤ 255) {m : Nat} (hm : 1 ≤ m) (hm' : m ≤ 40) : ∃ r : Nat, r < m ∧ Int.tmod (IntKind.i64.wrap p) (m : Int) = (r : Int) := by
  rw [wrap_i64_of (x := p) (by omega) (by omega), Int.tmod_eq_emod_of_nonneg h0]
  have h1 := Int.emod_nonneg p (show (m : Int) ≠ 0 by omega)
  have h2 := Int.emod_lt_of_pos p (show (0 : Int) < m by omega)
  exact ⟨(p % (m : Int)).toNat, by omega, by omega⟩
theorem law_carries (x : ct6.p.den) (h : InR ct6.p x) : ct6.F x = true := by
  obtain ⟨⟨⟨dir, o⟩, fl⟩, ⟨x0, x1⟩, l⟩ := x
  obtain ⟨_, ⟨h0, h1⟩, _⟩ := h
  have h0 := u8_of h0
  have h1 := u8_of h1
  show F6 (((dir, o), fl), (x0, x1), l) = true
  unfold F6
  simp only
  obtain ⟨n, hn2, hn, hne⟩ := floors9 h0.1 h0.2
  obtain ⟨f, hf, hfe⟩ := floor_of fl (n := n) (by omega) (by omega)
  obtain ⟨r, hr, hre⟩ := rem_of h1.1 h1.2 (m := n) (by omega) (by omega)
  rw [hne, hfe, hre]
  have t8 := tmod8 o
  have t3 := tmod3 dir
  generalize IntKind.i64.wrap (Int.tmod (IntKind.u64.wrap o) 8) = oo' at t8 ⊢
  generalize IntKind.i64.wrap (Int.tmod (IntKind.u64.wrap dir) 3) = dd at t3 ⊢
  have hA : AC n r f 0 0 0 dd oo' := by
    rcases Int.lt_trichotomy r f with hp | hp | hp <;> rcases Int.lt_trichotomy dd 1 with hq | hq | hq <;> rcases Int.lt_trichotomy oo' 0 with hs | hs | hs <;> (first | exact (Or.inl ⟨by omega, by omega, by omega, by omega⟩) | exact Or.inr ((Or.inl ⟨by omega, by omega, by omega, by omega⟩)) | exact Or.inr (Or.inr ((Or.inl ⟨by omega, by omega, by omega, by omega⟩))) | exact Or.inr (Or.inr (Or.inr ((Or.inl ⟨by omega, by omega, by omega, by omega⟩)))) | exact Or.inr (Or.inr (Or.inr (Or.inr ((Or.inl ⟨by omega, by omega, by omega, by omega, by omega⟩))))) | exact Or.inr (Or.inr (Or.inr (Or.inr (Or.inr (⟨by omega, by omega, by omega, by omega, by omega⟩))))) | (exfalso; omega))
  have hd1 : R6_8 (l, (n : Int), (r : Int)) ((f : Int), 0, 0, 0, (dd, oo'), 0, 0, 0) = some true :=
    ret_good (IC n r) (mu6_8 (l, (n : Int), (r : Int))) (carriesC l hn2 hn hr) _ _
      (IC.mk ⟨by omega, by omega, by omega, by omega, by omega, by omega⟩ hA W.zero W.zero W.zero) (Nat.lt_succ_self _)
  rw [hd1]
  simp only [optR_some]
end Go.Proofs.YtidnlehjabhclaaDoor.Sp
