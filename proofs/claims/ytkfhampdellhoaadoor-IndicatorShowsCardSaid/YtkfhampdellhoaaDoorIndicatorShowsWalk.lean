/- IndicatorShows: the call of the law returns true (written by own program mkwalk.py, out of the contract and the plain law). -/
import Derived.Test.YtkfhampdellhoaaDoorOpen
import Derived.Test.YtkfhampdellhoaaDoorTr
import Derived.Test.YtkfhampdellhoaaDoorI4
import Derived.Test.YtkfhampdellhoaaDoorIa
namespace Go.Proofs.YtkfhampdellhoaaDoor.Sy
open Go Go.RowKit
set_option linter.unusedVariables false
set_option linter.unusedSimpArgs false
set_option maxRecDepth 100000
theorem walk_IndicatorShows (a0_0 : Int) (a1_0 : Int) (a1_1 : Int) (a1_2 : Int) (w : World) (w0_0 : (Lit.int .i64 a0_0).wf = true) (w1_0 : (Lit.int .i64 a1_0).wf = true) (w1_1 : (Lit.int .i64 a1_1).wf = true) (w1_2 : (Lit.int .i64 a1_2).wf = true) (hT : gdS.H w) :
    Calls Tryd.prog 5 #[.int .i64 a0_0, .agg #[.int .i64 a1_0, .int .i64 a1_1, .int .i64 a1_2]] w fun e w' => e = .returned (.bool true) ∧ Below w.heap.size w w' := by
  exact call_true ok5 (a0_0, (a1_0, a1_1, a1_2)) w _ [.int .i64 a0_0, .int .i64 a1_0, .int .i64 a1_1, .int .i64 a1_2] hT (fun q hq => by cases hq) ⟨_, rfl, ⟨[.int .i64 a1_0, .int .i64 a1_1, .int .i64 a1_2], _, rfl, rfl, rfl, rfl⟩⟩ (tr_of ⟨rfl, rfl, rfl, rfl, trivial⟩) (Sp.law_shows _ ⟨w0_0, ⟨w1_0, w1_1, w1_2⟩⟩)
end Go.Proofs.YtkfhampdellhoaaDoor.Sy
