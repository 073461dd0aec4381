/- CollectiveChooses: the call of the law returns true (written by own program mkwalk.py, out of the contract and the plain law). -/
import Derived.Test.YtidnlehjabhclaaDoorOpen
import Derived.Test.YtidnlehjabhclaaDoorTr
import Derived.Test.YtidnlehjabhclaaDoorE7
import Derived.Test.YtidnlehjabhclaaDoorCd
namespace Go.Proofs.YtidnlehjabhclaaDoor.Sy
open Go Go.RowKit
set_option linter.unusedVariables false
set_option linter.unusedSimpArgs false
set_option maxRecDepth 100000
theorem walk_CollectiveChooses (a0_0 : Int) (a1_0 : Int) (a1_1 : Int) (a1_2 : Int) (a2_0 : Int) (a2_1 : Int) (a2_2 : Int) (w : World) (w0_0 : (Lit.int .u8 a0_0).wf = true) (w1_0 : (Lit.int .i64 a1_0).wf = true) (w1_1 : (Lit.int .i64 a1_1).wf = true) (w1_2 : (Lit.int .i64 a1_2).wf = true) (w2_0 : (Lit.int .u32 a2_0).wf = true) (w2_1 : (Lit.int .u32 a2_1).wf = true) (w2_2 : (Lit.int .u32 a2_2).wf = true) (hT : gdS.H w) :
    Calls Tryd.prog 7 #[.int .u8 a0_0, .agg #[.int .i64 a1_0, .int .i64 a1_1, .int .i64 a1_2], .agg #[.int .u32 a2_0, .int .u32 a2_1, .int .u32 a2_2]] w fun e w' => e = .returned (.bool true) ∧ Below w.heap.size w w' := by
  exact call_true ok7 (a0_0, ((a1_0, a1_1), a1_2), (a2_0, (a2_1, a2_2))) w _ [.int .u8 a0_0, .int .i64 a1_0, .int .i64 a1_1, .int .i64 a1_2, .int .u32 a2_0, .int .u32 a2_1, .int .u32 a2_2] hT (fun q hq => by cases hq) ⟨_, rfl, ⟨[.int .i64 a1_0, .int .i64 a1_1, .int .i64 a1_2], _, rfl, rfl, rfl, ⟨[.int .u32 a2_0, .int .u32 a2_1, .int .u32 a2_2], _, rfl, rfl, rfl, rfl⟩⟩⟩ (tr_of ⟨rfl, rfl, rfl, rfl, rfl, rfl, rfl, trivial⟩) (Sp.law_chooses _ ⟨w0_0, ⟨⟨w1_0, w1_1⟩, w1_2⟩, ⟨w2_0, ⟨w2_1, w2_2⟩⟩⟩)
end Go.Proofs.YtidnlehjabhclaaDoor.Sy
