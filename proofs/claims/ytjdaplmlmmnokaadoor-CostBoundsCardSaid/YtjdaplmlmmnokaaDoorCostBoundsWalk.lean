/- CostBounds: the call of the law returns true (written by own program mkwalk.py, out of the contract and the plain law). -/
import Derived.Test.YtjdaplmlmmnokaaDoorOpen
import Derived.Test.YtjdaplmlmmnokaaDoorTr
import Derived.Test.YtjdaplmlmmnokaaDoorD1
import Derived.Test.YtjdaplmlmmnokaaDoorKc
namespace Go.Proofs.YtjdaplmlmmnokaaDoor.Sy
open Go Go.RowKit
set_option linter.unusedVariables false
set_option linter.unusedSimpArgs false
set_option maxRecDepth 100000
theorem walk_CostBounds (a0_0 : Int) (a0_1 : Int) (a0_2 : Int) (a0_3 : Int) (a1_0 : Int) (a1_1 : Int) (a1_2 : Int) (a2_0 : Int) (a2_1 : Int) (a2_2 : Int) (w : World) (w0_0 : (Lit.int .i64 a0_0).wf = true) (w0_1 : (Lit.int .i64 a0_1).wf = true) (w0_2 : (Lit.int .i64 a0_2).wf = true) (w0_3 : (Lit.int .i64 a0_3).wf = true) (w1_0 : (Lit.int .u32 a1_0).wf = true) (w1_1 : (Lit.int .u32 a1_1).wf = true) (w1_2 : (Lit.int .u32 a1_2).wf = true) (w2_0 : (Lit.int .u32 a2_0).wf = true) (w2_1 : (Lit.int .u32 a2_1).wf = true) (w2_2 : (Lit.int .u32 a2_2).wf = true) (hT : gdS.H w) :
    Calls Tryd.prog 4 #[.agg #[.int .i64 a0_0, .int .i64 a0_1, .int .i64 a0_2, .int .i64 a0_3], .agg #[.int .u32 a1_0, .int .u32 a1_1, .int .u32 a1_2], .agg #[.int .u32 a2_0, .int .u32 a2_1, .int .u32 a2_2]] w fun e w' => e = .returned (.bool true) ∧ Below w.heap.size w w' := by
  exact call_true ok4 ((a0_0, a0_1, a0_2, a0_3), (a1_0, (a1_1, a1_2)), (a2_0, (a2_1, a2_2))) w _ [.int .i64 a0_0, .int .i64 a0_1, .int .i64 a0_2, .int .i64 a0_3, .int .u32 a1_0, .int .u32 a1_1, .int .u32 a1_2, .int .u32 a2_0, .int .u32 a2_1, .int .u32 a2_2] hT (fun q hq => by cases hq) ⟨[.int .i64 a0_0, .int .i64 a0_1, .int .i64 a0_2, .int .i64 a0_3], _, rfl, rfl, rfl, ⟨[.int .u32 a1_0, .int .u32 a1_1, .int .u32 a1_2], _, rfl, rfl, rfl, ⟨[.int .u32 a2_0, .int .u32 a2_1, .int .u32 a2_2], _, rfl, rfl, rfl, rfl⟩⟩⟩ (tr_of ⟨rfl, rfl, rfl, rfl, rfl, rfl, rfl, rfl, rfl, rfl, trivial⟩) (Sp.law_bounds _ ⟨⟨w0_0, w0_1, w0_2, w0_3⟩, ⟨w1_0, ⟨w1_1, w1_2⟩⟩, ⟨w2_0, ⟨w2_1, w2_2⟩⟩⟩)
end Go.Proofs.YtjdaplmlmmnokaaDoor.Sy
