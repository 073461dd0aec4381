/- Written by own program mkopen.py: the parameter types of this seat, opened to their cells. -/
import Derived.Test.YtghlpolodjlgjaaChecked
import Derived.Test.YtghlpolodjlgjaaOp
namespace Go.Proofs.Ytghlpolodjlgjaa
open Go.ChangeShapes Go.WideShapes Go.ChangeAt Go.RowKit Go.Deep
set_option linter.unusedSimpArgs false
set_option linter.unusedVariables false
set_option maxRecDepth 100000

theorem cells_T5 : Try.prog.cellsOf 5 = 1 := by kernel_rfl
def E_T5 (cs : List Value) : Prop := ∃ (a0 : Int), cs = [.int .u8 a0] ∧ (Lit.int .u8 a0).wf = true
theorem open_T5 {H : Type} {enc : TypeId × Value → H} {w : World} {base : Nat} {spare : Nat → Bool} {held : Bool} {fuel : Nat} {cs : List Value} {x : DataW H × List MemPlace} (h : DataW.trod enc Try.prog w base spare held fuel 5 cs = some x) : E_T5 cs := by
  obtain ⟨n, rfl, _, hw⟩ := DataW.trod_int Try.underlying5 h
  exact ⟨n, rfl, hw⟩
theorem cells_T22 : Try.prog.cellsOf 22 = 2 := by kernel_rfl
def E_T22 (cs : List Value) : Prop := ∃ (a0 : Int) (a1 : Int), cs = [.int .u8 a0, .int .u8 a1] ∧ (Lit.int .u8 a0).wf = true ∧ (Lit.int .u8 a1).wf = true
theorem open_T22 {H : Type} {enc : TypeId × Value → H} {w : World} {base : Nat} {spare : Nat → Bool} {held : Bool} {fuel : Nat} {cs : List Value} {x : DataW H × List MemPlace} (h : DataW.trod enc Try.prog w base spare held fuel 22 cs = some x) : E_T22 cs := by
  obtain ⟨hl, n, hg⟩ := array_elems Try.underlying22 h
  rw [cells_T22] at hl
  match cs, hl with
  | [c0, c1], _ =>
    obtain ⟨y0, g0⟩ := hg 0 (by decide)
    simp only [List.getElem_toArray, List.getElem_cons_zero, List.getElem_cons_succ, cells_T5, Nat.zero_mul, Nat.one_mul, Nat.reduceMul, List.drop_zero, List.drop_succ_cons, List.take_succ_cons, List.take_zero] at g0
    obtain ⟨a0, q0, w0⟩ := open_T5 g0
    simp only [List.cons.injEq, and_true] at q0
    subst q0
    obtain ⟨y1, g1⟩ := hg 1 (by decide)
    simp only [List.getElem_toArray, List.getElem_cons_zero, List.getElem_cons_succ, cells_T5, Nat.zero_mul, Nat.one_mul, Nat.reduceMul, List.drop_zero, List.drop_succ_cons, List.take_succ_cons, List.take_zero] at g1
    obtain ⟨a1, q1, w1⟩ := open_T5 g1
    simp only [List.cons.injEq, and_true] at q1
    subst q1
    exact ⟨a0, a1, rfl, w0, w1⟩
end Go.Proofs.Ytghlpolodjlgjaa
