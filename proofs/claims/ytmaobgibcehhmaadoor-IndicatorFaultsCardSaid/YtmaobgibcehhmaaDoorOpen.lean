/- Written by own program mkopen.py: the parameter types of this seat, opened to their cells. -/
import Derived.Test.YtmaobgibcehhmaaDoorChecked
import Derived.Test.YtmaobgibcehhmaaDoorOp
namespace Go.Proofs.YtmaobgibcehhmaaDoor
open Go.ChangeShapes Go.WideShapes Go.ChangeAt Go.RowKit Go.Deep
set_option linter.unusedSimpArgs false
set_option linter.unusedVariables false
set_option maxRecDepth 100000

theorem cells_T5 : Tryd.prog.cellsOf 5 = 1 := by kernel_rfl
def E_T5 (cs : List Value) : Prop := ∃ (a0 : Int), cs = [.int .u8 a0] ∧ (Lit.int .u8 a0).wf = true
theorem open_T5 {H : Type} {enc : TypeId × Value → H} {w : World} {base : Nat} {spare : Nat → Bool} {held : Bool} {fuel : Nat} {cs : List Value} {x : DataW H × List MemPlace} (h : DataW.trod enc Tryd.prog w base spare held fuel 5 cs = some x) : E_T5 cs := by
  obtain ⟨n, rfl, _, hw⟩ := DataW.trod_int Tryd.underlying5 h
  exact ⟨n, rfl, hw⟩
theorem cells_T22 : Tryd.prog.cellsOf 22 = 1 := by kernel_rfl
def E_T22 (cs : List Value) : Prop := ∃ (a0 : Int), cs = [.int .u32 a0] ∧ (Lit.int .u32 a0).wf = true
theorem open_T22 {H : Type} {enc : TypeId × Value → H} {w : World} {base : Nat} {spare : Nat → Bool} {held : Bool} {fuel : Nat} {cs : List Value} {x : DataW H × List MemPlace} (h : DataW.trod enc Tryd.prog w base spare held fuel 22 cs = some x) : E_T22 cs := by
  obtain ⟨n, rfl, _, hw⟩ := DataW.trod_int Tryd.underlying22 h
  exact ⟨n, rfl, hw⟩
theorem cells_T4 : Tryd.prog.cellsOf 4 = 1 := by kernel_rfl
def E_T4 (cs : List Value) : Prop := ∃ (a0 : Bool), cs = [.bool a0]
theorem open_T4 {H : Type} {enc : TypeId × Value → H} {w : World} {base : Nat} {spare : Nat → Bool} {held : Bool} {fuel : Nat} {cs : List Value} {x : DataW H × List MemPlace} (h : DataW.trod enc Tryd.prog w base spare held fuel 4 cs = some x) : E_T4 cs := by
  obtain ⟨b, rfl, _⟩ := DataW.trod_bool Tryd.underlying4 h
  exact ⟨b, rfl⟩
theorem cells_T24 : Tryd.prog.cellsOf 24 = 5 := by kernel_rfl
def E_T24 (cs : List Value) : Prop := ∃ (a0 : Int) (a1 : Bool) (a2 : Bool) (a3 : Bool) (a4 : Bool), cs = [.int .u32 a0, .bool a1, .bool a2, .bool a3, .bool a4] ∧ (Lit.int .u32 a0).wf = true
theorem open_T24 {H : Type} {enc : TypeId × Value → H} {w : World} {base : Nat} {spare : Nat → Bool} {held : Bool} {fuel : Nat} {cs : List Value} {x : DataW H × List MemPlace} (h : DataW.trod enc Tryd.prog w base spare held fuel 24 cs = some x) : E_T24 cs := by
  obtain ⟨hl, n, hg⟩ := struct_fields Tryd.underlying24 h
  rw [cells_T24] at hl
  match cs, hl with
  | [c0, c1, c2, c3, c4], _ =>
    obtain ⟨y0, g0⟩ := hg 0 _ rfl
    simp only [List.getElem_toArray, List.getElem_cons_zero, List.getElem_cons_succ, cells_T22, Nat.zero_mul, Nat.one_mul, Nat.reduceMul, List.drop_zero, List.drop_succ_cons, List.take_succ_cons, List.take_zero] at g0
    obtain ⟨a0, q0, w0⟩ := open_T22 g0
    simp only [List.cons.injEq, and_true] at q0
    subst q0
    obtain ⟨y1, g1⟩ := hg 1 _ rfl
    simp only [List.getElem_toArray, List.getElem_cons_zero, List.getElem_cons_succ, cells_T4, Nat.zero_mul, Nat.one_mul, Nat.reduceMul, List.drop_zero, List.drop_succ_cons, List.take_succ_cons, List.take_zero] at g1
    obtain ⟨a1, q1⟩ := open_T4 g1
    simp only [List.cons.injEq, and_true] at q1
    subst q1
    obtain ⟨y2, g2⟩ := hg 2 _ rfl
    simp only [List.getElem_toArray, List.getElem_cons_zero, List.getElem_cons_succ, cells_T4, Nat.zero_mul, Nat.one_mul, Nat.reduceMul, List.drop_zero, List.drop_succ_cons, List.take_succ_cons, List.take_zero] at g2
    obtain ⟨a2, q2⟩ := open_T4 g2
    simp only [List.cons.injEq, and_true] at q2
    subst q2
    obtain ⟨y3, g3⟩ := hg 3 _ rfl
    simp only [List.getElem_toArray, List.getElem_cons_zero, List.getElem_cons_succ, cells_T4, Nat.zero_mul, Nat.one_mul, Nat.reduceMul, List.drop_zero, List.drop_succ_cons, List.take_succ_cons, List.take_zero] at g3
    obtain ⟨a3, q3⟩ := open_T4 g3
    simp only [List.cons.injEq, and_true] at q3
    subst q3
    obtain ⟨y4, g4⟩ := hg 4 _ rfl
    simp only [List.getElem_toArray, List.getElem_cons_zero, List.getElem_cons_succ, cells_T4, Nat.zero_mul, Nat.one_mul, Nat.reduceMul, List.drop_zero, List.drop_succ_cons, List.take_succ_cons, List.take_zero] at g4
    obtain ⟨a4, q4⟩ := open_T4 g4
    simp only [List.cons.injEq, and_true] at q4
    subst q4
    exact ⟨a0, a1, a2, a3, a4, rfl, w0⟩
theorem cells_T25 : Tryd.prog.cellsOf 25 = 2 := by kernel_rfl
def E_T25 (cs : List Value) : Prop := ∃ (a0 : Int) (a1 : Int), cs = [.int .u8 a0, .int .u8 a1] ∧ (Lit.int .u8 a0).wf = true ∧ (Lit.int .u8 a1).wf = true
theorem open_T25 {H : Type} {enc : TypeId × Value → H} {w : World} {base : Nat} {spare : Nat → Bool} {held : Bool} {fuel : Nat} {cs : List Value} {x : DataW H × List MemPlace} (h : DataW.trod enc Tryd.prog w base spare held fuel 25 cs = some x) : E_T25 cs := by
  obtain ⟨hl, n, hg⟩ := array_elems Tryd.underlying25 h
  rw [cells_T25] at hl
  match cs, hl with
  | [c0, c1], _ =>
    obtain ⟨y0, g0⟩ := hg 0 (by decide)
    simp only [List.getElem_toArray, List.getElem_cons_zero, List.getElem_cons_succ, cells_T5, Nat.zero_mul, Nat.one_mul, Nat.reduceMul, List.drop_zero, List.drop_succ_cons, List.take_succ_cons, List.take_zero] at g0
    obtain ⟨a0, q0, w0⟩ := open_T5 g0
    simp only [List.cons.injEq, and_true] at q0
    subst q0
    obtain ⟨y1, g1⟩ := hg 1 (by decide)
    simp only [List.getElem_toArray, List.getElem_cons_zero, List.getElem_cons_succ, cells_T5, Nat.zero_mul, Nat.one_mul, Nat.reduceMul, List.drop_zero, List.drop_succ_cons, List.take_succ_cons, List.take_zero] at g1
    obtain ⟨a1, q1, w1⟩ := open_T5 g1
    simp only [List.cons.injEq, and_true] at q1
    subst q1
    exact ⟨a0, a1, rfl, w0, w1⟩
end Go.Proofs.YtmaobgibcehhmaaDoor
