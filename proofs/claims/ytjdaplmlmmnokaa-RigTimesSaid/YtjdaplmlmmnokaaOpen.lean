/- Written by own program mkopen.py: the parameter types of this seat, opened to their cells. -/
import Derived.Test.YtjdaplmlmmnokaaChecked
import Derived.Test.YtjdaplmlmmnokaaOp
namespace Go.Proofs.Ytjdaplmlmmnokaa
open Go.ChangeShapes Go.WideShapes Go.ChangeAt Go.RowKit Go.Deep
set_option linter.unusedSimpArgs false
set_option linter.unusedVariables false

theorem cells_T3 : Try.prog.cellsOf 3 = 1 := by kernel_rfl
def E_T3 (cs : List Value) : Prop := ∃ (a0 : Int), cs = [.int .i64 a0] ∧ (Lit.int .i64 a0).wf = true
theorem open_T3 {H : Type} {enc : TypeId × Value → H} {w : World} {base : Nat} {spare : Nat → Bool} {held : Bool} {fuel : Nat} {cs : List Value} {x : DataW H × List MemPlace} (h : DataW.trod enc Try.prog w base spare held fuel 3 cs = some x) : E_T3 cs := by
  obtain ⟨n, rfl, _, hw⟩ := DataW.trod_int Try.underlying3 h
  exact ⟨n, rfl, hw⟩
theorem cells_T23 : Try.prog.cellsOf 23 = 6 := by kernel_rfl
def E_T23 (cs : List Value) : Prop := ∃ (a0 : Int) (a1 : Int) (a2 : Int) (a3 : Int) (a4 : Int) (a5 : Int), cs = [.int .i64 a0, .int .i64 a1, .int .i64 a2, .int .i64 a3, .int .i64 a4, .int .i64 a5] ∧ (Lit.int .i64 a0).wf = true ∧ (Lit.int .i64 a1).wf = true ∧ (Lit.int .i64 a2).wf = true ∧ (Lit.int .i64 a3).wf = true ∧ (Lit.int .i64 a4).wf = true ∧ (Lit.int .i64 a5).wf = true
theorem open_T23 {H : Type} {enc : TypeId × Value → H} {w : World} {base : Nat} {spare : Nat → Bool} {held : Bool} {fuel : Nat} {cs : List Value} {x : DataW H × List MemPlace} (h : DataW.trod enc Try.prog w base spare held fuel 23 cs = some x) : E_T23 cs := by
  obtain ⟨hl, n, hg⟩ := struct_fields Try.underlying23 h
  rw [cells_T23] at hl
  match cs, hl with
  | [c0, c1, c2, c3, c4, c5], _ =>
    obtain ⟨y0, g0⟩ := hg 0 _ rfl
    simp only [List.getElem_toArray, List.getElem_cons_zero, List.getElem_cons_succ, cells_T3, Nat.zero_mul, Nat.one_mul, Nat.reduceMul, List.drop_zero, List.drop_succ_cons, List.take_succ_cons, List.take_zero] at g0
    obtain ⟨a0, q0, w0⟩ := open_T3 g0
    simp only [List.cons.injEq, and_true] at q0
    subst q0
    obtain ⟨y1, g1⟩ := hg 1 _ rfl
    simp only [List.getElem_toArray, List.getElem_cons_zero, List.getElem_cons_succ, cells_T3, Nat.zero_mul, Nat.one_mul, Nat.reduceMul, List.drop_zero, List.drop_succ_cons, List.take_succ_cons, List.take_zero] at g1
    obtain ⟨a1, q1, w1⟩ := open_T3 g1
    simp only [List.cons.injEq, and_true] at q1
    subst q1
    obtain ⟨y2, g2⟩ := hg 2 _ rfl
    simp only [List.getElem_toArray, List.getElem_cons_zero, List.getElem_cons_succ, cells_T3, Nat.zero_mul, Nat.one_mul, Nat.reduceMul, List.drop_zero, List.drop_succ_cons, List.take_succ_cons, List.take_zero] at g2
    obtain ⟨a2, q2, w2⟩ := open_T3 g2
    simp only [List.cons.injEq, and_true] at q2
    subst q2
    obtain ⟨y3, g3⟩ := hg 3 _ rfl
    simp only [List.getElem_toArray, List.getElem_cons_zero, List.getElem_cons_succ, cells_T3, Nat.zero_mul, Nat.one_mul, Nat.reduceMul, List.drop_zero, List.drop_succ_cons, List.take_succ_cons, List.take_zero] at g3
    obtain ⟨a3, q3, w3⟩ := open_T3 g3
    simp only [List.cons.injEq, and_true] at q3
    subst q3
    obtain ⟨y4, g4⟩ := hg 4 _ rfl
    simp only [List.getElem_toArray, List.getElem_cons_zero, List.getElem_cons_succ, cells_T3, Nat.zero_mul, Nat.one_mul, Nat.reduceMul, List.drop_zero, List.drop_succ_cons, List.take_succ_cons, List.take_zero] at g4
    obtain ⟨a4, q4, w4⟩ := open_T3 g4
    simp only [List.cons.injEq, and_true] at q4
    subst q4
    obtain ⟨y5, g5⟩ := hg 5 _ rfl
    simp only [List.getElem_toArray, List.getElem_cons_zero, List.getElem_cons_succ, cells_T3, Nat.zero_mul, Nat.one_mul, Nat.reduceMul, List.drop_zero, List.drop_succ_cons, List.take_succ_cons, List.take_zero] at g5
    obtain ⟨a5, q5, w5⟩ := open_T3 g5
    simp only [List.cons.injEq, and_true] at q5
    subst q5
    exact ⟨a0, a1, a2, a3, a4, a5, rfl, w0, w1, w2, w3, w4, w5⟩
theorem cells_T30 : Try.prog.cellsOf 30 = 2 := by kernel_rfl
def E_T30 (cs : List Value) : Prop := ∃ (a0 : Int) (a1 : Int), cs = [.int .i64 a0, .int .i64 a1] ∧ (Lit.int .i64 a0).wf = true ∧ (Lit.int .i64 a1).wf = true
theorem open_T30 {H : Type} {enc : TypeId × Value → H} {w : World} {base : Nat} {spare : Nat → Bool} {held : Bool} {fuel : Nat} {cs : List Value} {x : DataW H × List MemPlace} (h : DataW.trod enc Try.prog w base spare held fuel 30 cs = some x) : E_T30 cs := by
  obtain ⟨hl, n, hg⟩ := struct_fields Try.underlying30 h
  rw [cells_T30] at hl
  match cs, hl with
  | [c0, c1], _ =>
    obtain ⟨y0, g0⟩ := hg 0 _ rfl
    simp only [List.getElem_toArray, List.getElem_cons_zero, List.getElem_cons_succ, cells_T3, Nat.zero_mul, Nat.one_mul, Nat.reduceMul, List.drop_zero, List.drop_succ_cons, List.take_succ_cons, List.take_zero] at g0
    obtain ⟨a0, q0, w0⟩ := open_T3 g0
    simp only [List.cons.injEq, and_true] at q0
    subst q0
    obtain ⟨y1, g1⟩ := hg 1 _ rfl
    simp only [List.getElem_toArray, List.getElem_cons_zero, List.getElem_cons_succ, cells_T3, Nat.zero_mul, Nat.one_mul, Nat.reduceMul, List.drop_zero, List.drop_succ_cons, List.take_succ_cons, List.take_zero] at g1
    obtain ⟨a1, q1, w1⟩ := open_T3 g1
    simp only [List.cons.injEq, and_true] at q1
    subst q1
    exact ⟨a0, a1, rfl, w0, w1⟩
theorem cells_T24 : Try.prog.cellsOf 24 = 1 := by kernel_rfl
theorem open_T24 {H : Type} {enc : TypeId × Value → H} {w : World} {base : Nat} {spare : Nat → Bool} {held : Bool} {fuel : Nat} {cs : List Value} {x : DataW H × List MemPlace} (h : DataW.trod enc Try.prog w base spare held fuel 24 cs = some x) : ∃ (a0 : Value), cs = [a0] ∧ IsSlice w 2 E_T30 a0 := by
  exact slice_is E_T30 Try.underlying24 cells_T30 (by decide) (fun _ _ _ h => open_T30 h) h
theorem cells_T5 : Try.prog.cellsOf 5 = 1 := by kernel_rfl
def E_T5 (cs : List Value) : Prop := ∃ (a0 : Int), cs = [.int .u8 a0] ∧ (Lit.int .u8 a0).wf = true
theorem open_T5 {H : Type} {enc : TypeId × Value → H} {w : World} {base : Nat} {spare : Nat → Bool} {held : Bool} {fuel : Nat} {cs : List Value} {x : DataW H × List MemPlace} (h : DataW.trod enc Try.prog w base spare held fuel 5 cs = some x) : E_T5 cs := by
  obtain ⟨n, rfl, _, hw⟩ := DataW.trod_int Try.underlying5 h
  exact ⟨n, rfl, hw⟩
theorem cells_T36 : Try.prog.cellsOf 36 = 2 := by kernel_rfl
def E_T36 (cs : List Value) : Prop := ∃ (a0 : Int) (a1 : Int), cs = [.int .u8 a0, .int .u8 a1] ∧ (Lit.int .u8 a0).wf = true ∧ (Lit.int .u8 a1).wf = true
theorem open_T36 {H : Type} {enc : TypeId × Value → H} {w : World} {base : Nat} {spare : Nat → Bool} {held : Bool} {fuel : Nat} {cs : List Value} {x : DataW H × List MemPlace} (h : DataW.trod enc Try.prog w base spare held fuel 36 cs = some x) : E_T36 cs := by
  obtain ⟨hl, n, hg⟩ := array_elems Try.underlying36 h
  rw [cells_T36] at hl
  match cs, hl with
  | [c0, c1], _ =>
    obtain ⟨y0, g0⟩ := hg 0 (by decide)
    simp only [List.getElem_toArray, List.getElem_cons_zero, List.getElem_cons_succ, cells_T5, Nat.zero_mul, Nat.one_mul, Nat.reduceMul, List.drop_zero, List.drop_succ_cons, List.take_succ_cons, List.take_zero] at g0
    obtain ⟨a0, q0, w0⟩ := open_T5 g0
    simp only [List.cons.injEq, and_true] at q0
    subst q0
    obtain ⟨y1, g1⟩ := hg 1 (by decide)
    simp only [List.getElem_toArray, List.getElem_cons_zero, List.getElem_cons_succ, cells_T5, Nat.zero_mul, Nat.one_mul, Nat.reduceMul, List.drop_zero, List.drop_succ_cons, List.take_succ_cons, List.take_zero] at g1
    obtain ⟨a1, q1, w1⟩ := open_T5 g1
    simp only [List.cons.injEq, and_true] at q1
    subst q1
    exact ⟨a0, a1, rfl, w0, w1⟩
theorem cells_T40 : Try.prog.cellsOf 40 = 3 := by kernel_rfl
def E_T40 (cs : List Value) : Prop := ∃ (a0 : Int) (a1 : Int) (a2 : Int), cs = [.int .u8 a0, .int .u8 a1, .int .u8 a2] ∧ (Lit.int .u8 a0).wf = true ∧ (Lit.int .u8 a1).wf = true ∧ (Lit.int .u8 a2).wf = true
theorem open_T40 {H : Type} {enc : TypeId × Value → H} {w : World} {base : Nat} {spare : Nat → Bool} {held : Bool} {fuel : Nat} {cs : List Value} {x : DataW H × List MemPlace} (h : DataW.trod enc Try.prog w base spare held fuel 40 cs = some x) : E_T40 cs := by
  obtain ⟨hl, n, hg⟩ := array_elems Try.underlying40 h
  rw [cells_T40] at hl
  match cs, hl with
  | [c0, c1, c2], _ =>
    obtain ⟨y0, g0⟩ := hg 0 (by decide)
    simp only [List.getElem_toArray, List.getElem_cons_zero, List.getElem_cons_succ, cells_T5, Nat.zero_mul, Nat.one_mul, Nat.reduceMul, List.drop_zero, List.drop_succ_cons, List.take_succ_cons, List.take_zero] at g0
    obtain ⟨a0, q0, w0⟩ := open_T5 g0
    simp only [List.cons.injEq, and_true] at q0
    subst q0
    obtain ⟨y1, g1⟩ := hg 1 (by decide)
    simp only [List.getElem_toArray, List.getElem_cons_zero, List.getElem_cons_succ, cells_T5, Nat.zero_mul, Nat.one_mul, Nat.reduceMul, List.drop_zero, List.drop_succ_cons, List.take_succ_cons, List.take_zero] at g1
    obtain ⟨a1, q1, w1⟩ := open_T5 g1
    simp only [List.cons.injEq, and_true] at q1
    subst q1
    obtain ⟨y2, g2⟩ := hg 2 (by decide)
    simp only [List.getElem_toArray, List.getElem_cons_zero, List.getElem_cons_succ, cells_T5, Nat.zero_mul, Nat.one_mul, Nat.reduceMul, List.drop_zero, List.drop_succ_cons, List.take_succ_cons, List.take_zero] at g2
    obtain ⟨a2, q2, w2⟩ := open_T5 g2
    simp only [List.cons.injEq, and_true] at q2
    subst q2
    exact ⟨a0, a1, a2, rfl, w0, w1, w2⟩
end Go.Proofs.Ytjdaplmlmmnokaa
