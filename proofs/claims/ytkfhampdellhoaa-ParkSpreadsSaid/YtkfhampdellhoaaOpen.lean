/- Written by own program mkopen.py: the parameter types of this seat, opened to their cells. -/
import Derived.Test.YtkfhampdellhoaaChecked
import Derived.Test.YtkfhampdellhoaaOp
namespace Go.Proofs.Ytkfhampdellhoaa
open Go.ChangeShapes Go.WideShapes Go.ChangeAt Go.RowKit Go.Deep
set_option linter.unusedSimpArgs false
set_option linter.unusedVariables false

theorem cells_T5 : Try.prog.cellsOf 5 = 1 := by kernel_rfl
def E_T5 (cs : List Value) : Prop := ∃ (a0 : Int), cs = [.int .u8 a0] ∧ (Lit.int .u8 a0).wf = true
theorem open_T5 {H : Type} {enc : TypeId × Value → H} {w : World} {base : Nat} {spare : Nat → Bool} {held : Bool} {fuel : Nat} {cs : List Value} {x : DataW H × List MemPlace} (h : DataW.trod enc Try.prog w base spare held fuel 5 cs = some x) : E_T5 cs := by
  obtain ⟨n, rfl, _, hw⟩ := DataW.trod_int Try.underlying5 h
  exact ⟨n, rfl, hw⟩
theorem cells_T22 : Try.prog.cellsOf 22 = 3 := by kernel_rfl
def E_T22 (cs : List Value) : Prop := ∃ (a0 : Int) (a1 : Int) (a2 : Int), cs = [.int .u8 a0, .int .u8 a1, .int .u8 a2] ∧ (Lit.int .u8 a0).wf = true ∧ (Lit.int .u8 a1).wf = true ∧ (Lit.int .u8 a2).wf = true
theorem open_T22 {H : Type} {enc : TypeId × Value → H} {w : World} {base : Nat} {spare : Nat → Bool} {held : Bool} {fuel : Nat} {cs : List Value} {x : DataW H × List MemPlace} (h : DataW.trod enc Try.prog w base spare held fuel 22 cs = some x) : E_T22 cs := by
  obtain ⟨hl, n, hg⟩ := array_elems Try.underlying22 h
  rw [cells_T22] at hl
  match cs, hl with
  | [c0, c1, c2], _ =>
    obtain ⟨y0, g0⟩ := hg 0 (by decide)
    simp only [List.getElem_toArray, List.getElem_cons_zero, List.getElem_cons_succ, cells_T5, Nat.zero_mul, Nat.one_mul, Nat.reduceMul, List.drop_zero, List.drop_succ_cons, List.take_succ_cons, List.take_zero] at g0
    obtain ⟨a0, q0, w0⟩ := open_T5 g0
    simp only [List.cons.injEq, and_true] at q0
    subst q0
    obtain ⟨y1, g1⟩ := hg 1 (by decide)
    simp only [List.getElem_toArray, List.getElem_cons_zero, List.getElem_cons_succ, cells_T5, Nat.zero_mul, Nat.one_mul, Nat.reduceMul, List.drop_zero, List.drop_succ_cons, List.take_succ_cons, List.take_zero] at g1
    obtain ⟨a1, q1, w1⟩ := open_T5 g1
    simp only [List.cons.injEq, and_true] at q1
    subst q1
    obtain ⟨y2, g2⟩ := hg 2 (by decide)
    simp only [List.getElem_toArray, List.getElem_cons_zero, List.getElem_cons_succ, cells_T5, Nat.zero_mul, Nat.one_mul, Nat.reduceMul, List.drop_zero, List.drop_succ_cons, List.take_succ_cons, List.take_zero] at g2
    obtain ⟨a2, q2, w2⟩ := open_T5 g2
    simp only [List.cons.injEq, and_true] at q2
    subst q2
    exact ⟨a0, a1, a2, rfl, w0, w1, w2⟩
theorem cells_T23 : Try.prog.cellsOf 23 = 1 := by kernel_rfl
theorem open_T23 {H : Type} {enc : TypeId × Value → H} {w : World} {base : Nat} {spare : Nat → Bool} {held : Bool} {fuel : Nat} {cs : List Value} {x : DataW H × List MemPlace} (h : DataW.trod enc Try.prog w base spare held fuel 23 cs = some x) : ∃ (a0 : Value), cs = [a0] ∧ IsSlice w 1 E_T5 a0 := by
  exact slice_is E_T5 Try.underlying23 cells_T5 (by decide) (fun _ _ _ h => open_T5 h) h
theorem cells_T3 : Try.prog.cellsOf 3 = 1 := by kernel_rfl
def E_T3 (cs : List Value) : Prop := ∃ (a0 : Int), cs = [.int .i64 a0] ∧ (Lit.int .i64 a0).wf = true
theorem open_T3 {H : Type} {enc : TypeId × Value → H} {w : World} {base : Nat} {spare : Nat → Bool} {held : Bool} {fuel : Nat} {cs : List Value} {x : DataW H × List MemPlace} (h : DataW.trod enc Try.prog w base spare held fuel 3 cs = some x) : E_T3 cs := by
  obtain ⟨n, rfl, _, hw⟩ := DataW.trod_int Try.underlying3 h
  exact ⟨n, rfl, hw⟩
theorem cells_T27 : Try.prog.cellsOf 27 = 3 := by kernel_rfl
def E_T27 (cs : List Value) : Prop := ∃ (a0 : Int) (a1 : Int) (a2 : Int), cs = [.int .i64 a0, .int .i64 a1, .int .i64 a2] ∧ (Lit.int .i64 a0).wf = true ∧ (Lit.int .i64 a1).wf = true ∧ (Lit.int .i64 a2).wf = true
theorem open_T27 {H : Type} {enc : TypeId × Value → H} {w : World} {base : Nat} {spare : Nat → Bool} {held : Bool} {fuel : Nat} {cs : List Value} {x : DataW H × List MemPlace} (h : DataW.trod enc Try.prog w base spare held fuel 27 cs = some x) : E_T27 cs := by
  obtain ⟨hl, n, hg⟩ := struct_fields Try.underlying27 h
  rw [cells_T27] at hl
  match cs, hl with
  | [c0, c1, c2], _ =>
    obtain ⟨y0, g0⟩ := hg 0 _ rfl
    simp only [List.getElem_toArray, List.getElem_cons_zero, List.getElem_cons_succ, cells_T3, Nat.zero_mul, Nat.one_mul, Nat.reduceMul, List.drop_zero, List.drop_succ_cons, List.take_succ_cons, List.take_zero] at g0
    obtain ⟨a0, q0, w0⟩ := open_T3 g0
    simp only [List.cons.injEq, and_true] at q0
    subst q0
    obtain ⟨y1, g1⟩ := hg 1 _ rfl
    simp only [List.getElem_toArray, List.getElem_cons_zero, List.getElem_cons_succ, cells_T3, Nat.zero_mul, Nat.one_mul, Nat.reduceMul, List.drop_zero, List.drop_succ_cons, List.take_succ_cons, List.take_zero] at g1
    obtain ⟨a1, q1, w1⟩ := open_T3 g1
    simp only [List.cons.injEq, and_true] at q1
    subst q1
    obtain ⟨y2, g2⟩ := hg 2 _ rfl
    simp only [List.getElem_toArray, List.getElem_cons_zero, List.getElem_cons_succ, cells_T3, Nat.zero_mul, Nat.one_mul, Nat.reduceMul, List.drop_zero, List.drop_succ_cons, List.take_succ_cons, List.take_zero] at g2
    obtain ⟨a2, q2, w2⟩ := open_T3 g2
    simp only [List.cons.injEq, and_true] at q2
    subst q2
    exact ⟨a0, a1, a2, rfl, w0, w1, w2⟩
theorem cells_T4 : Try.prog.cellsOf 4 = 1 := by kernel_rfl
def E_T4 (cs : List Value) : Prop := ∃ (a0 : Bool), cs = [.bool a0]
theorem open_T4 {H : Type} {enc : TypeId × Value → H} {w : World} {base : Nat} {spare : Nat → Bool} {held : Bool} {fuel : Nat} {cs : List Value} {x : DataW H × List MemPlace} (h : DataW.trod enc Try.prog w base spare held fuel 4 cs = some x) : E_T4 cs := by
  obtain ⟨b, rfl, _⟩ := DataW.trod_bool Try.underlying4 h
  exact ⟨b, rfl⟩
theorem cells_T31 : Try.prog.cellsOf 31 = 4 := by kernel_rfl
def E_T31 (cs : List Value) : Prop := ∃ (a0 : Int) (a1 : Bool) (a2 : Int) (a3 : Bool), cs = [.int .i64 a0, .bool a1, .int .i64 a2, .bool a3] ∧ (Lit.int .i64 a0).wf = true ∧ (Lit.int .i64 a2).wf = true
theorem open_T31 {H : Type} {enc : TypeId × Value → H} {w : World} {base : Nat} {spare : Nat → Bool} {held : Bool} {fuel : Nat} {cs : List Value} {x : DataW H × List MemPlace} (h : DataW.trod enc Try.prog w base spare held fuel 31 cs = some x) : E_T31 cs := by
  obtain ⟨hl, n, hg⟩ := struct_fields Try.underlying31 h
  rw [cells_T31] at hl
  match cs, hl with
  | [c0, c1, c2, c3], _ =>
    obtain ⟨y0, g0⟩ := hg 0 _ rfl
    simp only [List.getElem_toArray, List.getElem_cons_zero, List.getElem_cons_succ, cells_T3, Nat.zero_mul, Nat.one_mul, Nat.reduceMul, List.drop_zero, List.drop_succ_cons, List.take_succ_cons, List.take_zero] at g0
    obtain ⟨a0, q0, w0⟩ := open_T3 g0
    simp only [List.cons.injEq, and_true] at q0
    subst q0
    obtain ⟨y1, g1⟩ := hg 1 _ rfl
    simp only [List.getElem_toArray, List.getElem_cons_zero, List.getElem_cons_succ, cells_T4, Nat.zero_mul, Nat.one_mul, Nat.reduceMul, List.drop_zero, List.drop_succ_cons, List.take_succ_cons, List.take_zero] at g1
    obtain ⟨a1, q1⟩ := open_T4 g1
    simp only [List.cons.injEq, and_true] at q1
    subst q1
    obtain ⟨y2, g2⟩ := hg 2 _ rfl
    simp only [List.getElem_toArray, List.getElem_cons_zero, List.getElem_cons_succ, cells_T3, Nat.zero_mul, Nat.one_mul, Nat.reduceMul, List.drop_zero, List.drop_succ_cons, List.take_succ_cons, List.take_zero] at g2
    obtain ⟨a2, q2, w2⟩ := open_T3 g2
    simp only [List.cons.injEq, and_true] at q2
    subst q2
    obtain ⟨y3, g3⟩ := hg 3 _ rfl
    simp only [List.getElem_toArray, List.getElem_cons_zero, List.getElem_cons_succ, cells_T4, Nat.zero_mul, Nat.one_mul, Nat.reduceMul, List.drop_zero, List.drop_succ_cons, List.take_succ_cons, List.take_zero] at g3
    obtain ⟨a3, q3⟩ := open_T4 g3
    simp only [List.cons.injEq, and_true] at q3
    subst q3
    exact ⟨a0, a1, a2, a3, rfl, w0, w2⟩
theorem cells_T25 : Try.prog.cellsOf 25 = 9 := by kernel_rfl
def E_T25 (cs : List Value) : Prop := ∃ (a0 : Int) (a1 : Int) (a2 : Int) (a3 : Int) (a4 : Int) (a5 : Int) (a6 : Int) (a7 : Int) (a8 : Int), cs = [.int .i64 a0, .int .i64 a1, .int .i64 a2, .int .i64 a3, .int .i64 a4, .int .i64 a5, .int .i64 a6, .int .i64 a7, .int .i64 a8] ∧ (Lit.int .i64 a0).wf = true ∧ (Lit.int .i64 a1).wf = true ∧ (Lit.int .i64 a2).wf = true ∧ (Lit.int .i64 a3).wf = true ∧ (Lit.int .i64 a4).wf = true ∧ (Lit.int .i64 a5).wf = true ∧ (Lit.int .i64 a6).wf = true ∧ (Lit.int .i64 a7).wf = true ∧ (Lit.int .i64 a8).wf = true
theorem open_T25 {H : Type} {enc : TypeId × Value → H} {w : World} {base : Nat} {spare : Nat → Bool} {held : Bool} {fuel : Nat} {cs : List Value} {x : DataW H × List MemPlace} (h : DataW.trod enc Try.prog w base spare held fuel 25 cs = some x) : E_T25 cs := by
  obtain ⟨hl, n, hg⟩ := struct_fields Try.underlying25 h
  rw [cells_T25] at hl
  match cs, hl with
  | [c0, c1, c2, c3, c4, c5, c6, c7, c8], _ =>
    obtain ⟨y0, g0⟩ := hg 0 _ rfl
    simp only [List.getElem_toArray, List.getElem_cons_zero, List.getElem_cons_succ, cells_T3, Nat.zero_mul, Nat.one_mul, Nat.reduceMul, List.drop_zero, List.drop_succ_cons, List.take_succ_cons, List.take_zero] at g0
    obtain ⟨a0, q0, w0⟩ := open_T3 g0
    simp only [List.cons.injEq, and_true] at q0
    subst q0
    obtain ⟨y1, g1⟩ := hg 1 _ rfl
    simp only [List.getElem_toArray, List.getElem_cons_zero, List.getElem_cons_succ, cells_T3, Nat.zero_mul, Nat.one_mul, Nat.reduceMul, List.drop_zero, List.drop_succ_cons, List.take_succ_cons, List.take_zero] at g1
    obtain ⟨a1, q1, w1⟩ := open_T3 g1
    simp only [List.cons.injEq, and_true] at q1
    subst q1
    obtain ⟨y2, g2⟩ := hg 2 _ rfl
    simp only [List.getElem_toArray, List.getElem_cons_zero, List.getElem_cons_succ, cells_T3, Nat.zero_mul, Nat.one_mul, Nat.reduceMul, List.drop_zero, List.drop_succ_cons, List.take_succ_cons, List.take_zero] at g2
    obtain ⟨a2, q2, w2⟩ := open_T3 g2
    simp only [List.cons.injEq, and_true] at q2
    subst q2
    obtain ⟨y3, g3⟩ := hg 3 _ rfl
    simp only [List.getElem_toArray, List.getElem_cons_zero, List.getElem_cons_succ, cells_T3, Nat.zero_mul, Nat.one_mul, Nat.reduceMul, List.drop_zero, List.drop_succ_cons, List.take_succ_cons, List.take_zero] at g3
    obtain ⟨a3, q3, w3⟩ := open_T3 g3
    simp only [List.cons.injEq, and_true] at q3
    subst q3
    obtain ⟨y4, g4⟩ := hg 4 _ rfl
    simp only [List.getElem_toArray, List.getElem_cons_zero, List.getElem_cons_succ, cells_T3, Nat.zero_mul, Nat.one_mul, Nat.reduceMul, List.drop_zero, List.drop_succ_cons, List.take_succ_cons, List.take_zero] at g4
    obtain ⟨a4, q4, w4⟩ := open_T3 g4
    simp only [List.cons.injEq, and_true] at q4
    subst q4
    obtain ⟨y5, g5⟩ := hg 5 _ rfl
    simp only [List.getElem_toArray, List.getElem_cons_zero, List.getElem_cons_succ, cells_T3, Nat.zero_mul, Nat.one_mul, Nat.reduceMul, List.drop_zero, List.drop_succ_cons, List.take_succ_cons, List.take_zero] at g5
    obtain ⟨a5, q5, w5⟩ := open_T3 g5
    simp only [List.cons.injEq, and_true] at q5
    subst q5
    obtain ⟨y6, g6⟩ := hg 6 _ rfl
    simp only [List.getElem_toArray, List.getElem_cons_zero, List.getElem_cons_succ, cells_T3, Nat.zero_mul, Nat.one_mul, Nat.reduceMul, List.drop_zero, List.drop_succ_cons, List.take_succ_cons, List.take_zero] at g6
    obtain ⟨a6, q6, w6⟩ := open_T3 g6
    simp only [List.cons.injEq, and_true] at q6
    subst q6
    obtain ⟨y7, g7⟩ := hg 7 _ rfl
    simp only [List.getElem_toArray, List.getElem_cons_zero, List.getElem_cons_succ, cells_T3, Nat.zero_mul, Nat.one_mul, Nat.reduceMul, List.drop_zero, List.drop_succ_cons, List.take_succ_cons, List.take_zero] at g7
    obtain ⟨a7, q7, w7⟩ := open_T3 g7
    simp only [List.cons.injEq, and_true] at q7
    subst q7
    obtain ⟨y8, g8⟩ := hg 8 _ rfl
    simp only [List.getElem_toArray, List.getElem_cons_zero, List.getElem_cons_succ, cells_T3, Nat.zero_mul, Nat.one_mul, Nat.reduceMul, List.drop_zero, List.drop_succ_cons, List.take_succ_cons, List.take_zero] at g8
    obtain ⟨a8, q8, w8⟩ := open_T3 g8
    simp only [List.cons.injEq, and_true] at q8
    subst q8
    exact ⟨a0, a1, a2, a3, a4, a5, a6, a7, a8, rfl, w0, w1, w2, w3, w4, w5, w6, w7, w8⟩
theorem cells_T37 : Try.prog.cellsOf 37 = 14 := by kernel_rfl
def E_T37 (cs : List Value) : Prop := ∃ (a0 : Int) (a1 : Bool) (a2 : Int) (a3 : Bool) (a4 : Int) (a5 : Int) (a6 : Int) (a7 : Int) (a8 : Int) (a9 : Int) (a10 : Int) (a11 : Int) (a12 : Int) (a13 : Int), cs = [.int .i64 a0, .bool a1, .int .i64 a2, .bool a3, .int .i64 a4, .int .i64 a5, .int .i64 a6, .int .i64 a7, .int .i64 a8, .int .i64 a9, .int .i64 a10, .int .i64 a11, .int .i64 a12, .int .i64 a13] ∧ (Lit.int .i64 a0).wf = true ∧ (Lit.int .i64 a2).wf = true ∧ (Lit.int .i64 a4).wf = true ∧ (Lit.int .i64 a5).wf = true ∧ (Lit.int .i64 a6).wf = true ∧ (Lit.int .i64 a7).wf = true ∧ (Lit.int .i64 a8).wf = true ∧ (Lit.int .i64 a9).wf = true ∧ (Lit.int .i64 a10).wf = true ∧ (Lit.int .i64 a11).wf = true ∧ (Lit.int .i64 a12).wf = true ∧ (Lit.int .i64 a13).wf = true
theorem open_T37 {H : Type} {enc : TypeId × Value → H} {w : World} {base : Nat} {spare : Nat → Bool} {held : Bool} {fuel : Nat} {cs : List Value} {x : DataW H × List MemPlace} (h : DataW.trod enc Try.prog w base spare held fuel 37 cs = some x) : E_T37 cs := by
  obtain ⟨hl, n, hg⟩ := struct_fields Try.underlying37 h
  rw [cells_T37] at hl
  match cs, hl with
  | [c0, c1, c2, c3, c4, c5, c6, c7, c8, c9, c10, c11, c12, c13], _ =>
    obtain ⟨y0, g0⟩ := hg 0 _ rfl
    simp only [List.getElem_toArray, List.getElem_cons_zero, List.getElem_cons_succ, cells_T31, Nat.zero_mul, Nat.one_mul, Nat.reduceMul, List.drop_zero, List.drop_succ_cons, List.take_succ_cons, List.take_zero] at g0
    obtain ⟨a0, a1, a2, a3, q0, w0, w2⟩ := open_T31 g0
    simp only [List.cons.injEq, and_true] at q0
    obtain ⟨rfl, rfl, rfl, rfl⟩ := q0
    obtain ⟨y1, g1⟩ := hg 1 _ rfl
    simp only [List.getElem_toArray, List.getElem_cons_zero, List.getElem_cons_succ, cells_T3, Nat.zero_mul, Nat.one_mul, Nat.reduceMul, List.drop_zero, List.drop_succ_cons, List.take_succ_cons, List.take_zero] at g1
    obtain ⟨a4, q1, w4⟩ := open_T3 g1
    simp only [List.cons.injEq, and_true] at q1
    subst q1
    obtain ⟨y2, g2⟩ := hg 2 _ rfl
    simp only [List.getElem_toArray, List.getElem_cons_zero, List.getElem_cons_succ, cells_T25, Nat.zero_mul, Nat.one_mul, Nat.reduceMul, List.drop_zero, List.drop_succ_cons, List.take_succ_cons, List.take_zero] at g2
    obtain ⟨a5, a6, a7, a8, a9, a10, a11, a12, a13, q2, w5, w6, w7, w8, w9, w10, w11, w12, w13⟩ := open_T25 g2
    simp only [List.cons.injEq, and_true] at q2
    obtain ⟨rfl, rfl, rfl, rfl, rfl, rfl, rfl, rfl, rfl⟩ := q2
    exact ⟨a0, a1, a2, a3, a4, a5, a6, a7, a8, a9, a10, a11, a12, a13, rfl, w0, w2, w4, w5, w6, w7, w8, w9, w10, w11, w12, w13⟩
theorem cells_T43 : Try.prog.cellsOf 43 = 1 := by kernel_rfl
def E_T43 (cs : List Value) : Prop := ∃ (a0 : Nat), cs = [.float .f64 a0] ∧ (Lit.float .f64 a0).wf = true
theorem open_T43 {H : Type} {enc : TypeId × Value → H} {w : World} {base : Nat} {spare : Nat → Bool} {held : Bool} {fuel : Nat} {cs : List Value} {x : DataW H × List MemPlace} (h : DataW.trod enc Try.prog w base spare held fuel 43 cs = some x) : E_T43 cs := by
  exact trod_float Try.underlying43 h
theorem cells_T44 : Try.prog.cellsOf 44 = 1 := by kernel_rfl
theorem open_T44 {H : Type} {enc : TypeId × Value → H} {w : World} {base : Nat} {spare : Nat → Bool} {held : Bool} {fuel : Nat} {cs : List Value} {x : DataW H × List MemPlace} (h : DataW.trod enc Try.prog w base spare held fuel 44 cs = some x) : ∃ (a0 : Value), cs = [a0] ∧ IsSlice w 9 E_T25 a0 := by
  exact slice_is E_T25 Try.underlying44 cells_T25 (by decide) (fun _ _ _ h => open_T25 h) h
theorem cells_T46 : Try.prog.cellsOf 46 = 8 := by kernel_rfl
theorem open_T46 {H : Type} {enc : TypeId × Value → H} {w : World} {base : Nat} {spare : Nat → Bool} {held : Bool} {fuel : Nat} {cs : List Value} {x : DataW H × List MemPlace} (h : DataW.trod enc Try.prog w base spare held fuel 46 cs = some x) : ∃ (a0 : Int) (a1 : Int) (a2 : Int) (a3 : Int) (a4 : Nat) (a5 : Nat) (a6 : Nat) (a7 : Value), cs = [.int .i64 a0, .int .i64 a1, .int .i64 a2, .int .i64 a3, .float .f64 a4, .float .f64 a5, .float .f64 a6, a7] ∧ (Lit.int .i64 a0).wf = true ∧ (Lit.int .i64 a1).wf = true ∧ (Lit.int .i64 a2).wf = true ∧ (Lit.int .i64 a3).wf = true ∧ (Lit.float .f64 a4).wf = true ∧ (Lit.float .f64 a5).wf = true ∧ (Lit.float .f64 a6).wf = true ∧ IsSlice w 9 E_T25 a7 := by
  obtain ⟨hl, n, hg⟩ := struct_fields Try.underlying46 h
  rw [cells_T46] at hl
  match cs, hl with
  | [c0, c1, c2, c3, c4, c5, c6, c7], _ =>
    obtain ⟨y0, g0⟩ := hg 0 _ rfl
    simp only [List.getElem_toArray, List.getElem_cons_zero, List.getElem_cons_succ, cells_T3, Nat.zero_mul, Nat.one_mul, Nat.reduceMul, List.drop_zero, List.drop_succ_cons, List.take_succ_cons, List.take_zero] at g0
    obtain ⟨a0, q0, w0⟩ := open_T3 g0
    simp only [List.cons.injEq, and_true] at q0
    subst q0
    obtain ⟨y1, g1⟩ := hg 1 _ rfl
    simp only [List.getElem_toArray, List.getElem_cons_zero, List.getElem_cons_succ, cells_T3, Nat.zero_mul, Nat.one_mul, Nat.reduceMul, List.drop_zero, List.drop_succ_cons, List.take_succ_cons, List.take_zero] at g1
    obtain ⟨a1, q1, w1⟩ := open_T3 g1
    simp only [List.cons.injEq, and_true] at q1
    subst q1
    obtain ⟨y2, g2⟩ := hg 2 _ rfl
    simp only [List.getElem_toArray, List.getElem_cons_zero, List.getElem_cons_succ, cells_T3, Nat.zero_mul, Nat.one_mul, Nat.reduceMul, List.drop_zero, List.drop_succ_cons, List.take_succ_cons, List.take_zero] at g2
    obtain ⟨a2, q2, w2⟩ := open_T3 g2
    simp only [List.cons.injEq, and_true] at q2
    subst q2
    obtain ⟨y3, g3⟩ := hg 3 _ rfl
    simp only [List.getElem_toArray, List.getElem_cons_zero, List.getElem_cons_succ, cells_T3, Nat.zero_mul, Nat.one_mul, Nat.reduceMul, List.drop_zero, List.drop_succ_cons, List.take_succ_cons, List.take_zero] at g3
    obtain ⟨a3, q3, w3⟩ := open_T3 g3
    simp only [List.cons.injEq, and_true] at q3
    subst q3
    obtain ⟨y4, g4⟩ := hg 4 _ rfl
    simp only [List.getElem_toArray, List.getElem_cons_zero, List.getElem_cons_succ, cells_T43, Nat.zero_mul, Nat.one_mul, Nat.reduceMul, List.drop_zero, List.drop_succ_cons, List.take_succ_cons, List.take_zero] at g4
    obtain ⟨a4, q4, w4⟩ := open_T43 g4
    simp only [List.cons.injEq, and_true] at q4
    subst q4
    obtain ⟨y5, g5⟩ := hg 5 _ rfl
    simp only [List.getElem_toArray, List.getElem_cons_zero, List.getElem_cons_succ, cells_T43, Nat.zero_mul, Nat.one_mul, Nat.reduceMul, List.drop_zero, List.drop_succ_cons, List.take_succ_cons, List.take_zero] at g5
    obtain ⟨a5, q5, w5⟩ := open_T43 g5
    simp only [List.cons.injEq, and_true] at q5
    subst q5
    obtain ⟨y6, g6⟩ := hg 6 _ rfl
    simp only [List.getElem_toArray, List.getElem_cons_zero, List.getElem_cons_succ, cells_T43, Nat.zero_mul, Nat.one_mul, Nat.reduceMul, List.drop_zero, List.drop_succ_cons, List.take_succ_cons, List.take_zero] at g6
    obtain ⟨a6, q6, w6⟩ := open_T43 g6
    simp only [List.cons.injEq, and_true] at q6
    subst q6
    obtain ⟨y7, g7⟩ := hg 7 _ rfl
    simp only [List.getElem_toArray, List.getElem_cons_zero, List.getElem_cons_succ, cells_T44, Nat.zero_mul, Nat.one_mul, Nat.reduceMul, List.drop_zero, List.drop_succ_cons, List.take_succ_cons, List.take_zero] at g7
    obtain ⟨a7, q7, w7⟩ := open_T44 g7
    simp only [List.cons.injEq, and_true] at q7
    subst q7
    exact ⟨a0, a1, a2, a3, a4, a5, a6, c7, rfl, w0, w1, w2, w3, w4, w5, w6, w7⟩
theorem cells_T47 : Try.prog.cellsOf 47 = 3 := by kernel_rfl
def E_T47 (cs : List Value) : Prop := ∃ (a0 : Int) (a1 : Int) (a2 : Int), cs = [.int .i64 a0, .int .i64 a1, .int .i64 a2] ∧ (Lit.int .i64 a0).wf = true ∧ (Lit.int .i64 a1).wf = true ∧ (Lit.int .i64 a2).wf = true
theorem open_T47 {H : Type} {enc : TypeId × Value → H} {w : World} {base : Nat} {spare : Nat → Bool} {held : Bool} {fuel : Nat} {cs : List Value} {x : DataW H × List MemPlace} (h : DataW.trod enc Try.prog w base spare held fuel 47 cs = some x) : E_T47 cs := by
  obtain ⟨hl, n, hg⟩ := array_elems Try.underlying47 h
  rw [cells_T47] at hl
  match cs, hl with
  | [c0, c1, c2], _ =>
    obtain ⟨y0, g0⟩ := hg 0 (by decide)
    simp only [List.getElem_toArray, List.getElem_cons_zero, List.getElem_cons_succ, cells_T3, Nat.zero_mul, Nat.one_mul, Nat.reduceMul, List.drop_zero, List.drop_succ_cons, List.take_succ_cons, List.take_zero] at g0
    obtain ⟨a0, q0, w0⟩ := open_T3 g0
    simp only [List.cons.injEq, and_true] at q0
    subst q0
    obtain ⟨y1, g1⟩ := hg 1 (by decide)
    simp only [List.getElem_toArray, List.getElem_cons_zero, List.getElem_cons_succ, cells_T3, Nat.zero_mul, Nat.one_mul, Nat.reduceMul, List.drop_zero, List.drop_succ_cons, List.take_succ_cons, List.take_zero] at g1
    obtain ⟨a1, q1, w1⟩ := open_T3 g1
    simp only [List.cons.injEq, and_true] at q1
    subst q1
    obtain ⟨y2, g2⟩ := hg 2 (by decide)
    simp only [List.getElem_toArray, List.getElem_cons_zero, List.getElem_cons_succ, cells_T3, Nat.zero_mul, Nat.one_mul, Nat.reduceMul, List.drop_zero, List.drop_succ_cons, List.take_succ_cons, List.take_zero] at g2
    obtain ⟨a2, q2, w2⟩ := open_T3 g2
    simp only [List.cons.injEq, and_true] at q2
    subst q2
    exact ⟨a0, a1, a2, rfl, w0, w1, w2⟩
end Go.Proofs.Ytkfhampdellhoaa
