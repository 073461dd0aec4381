/- LoadSteps: the call of the law returns true (written by own program mkwalk.py, out of the contract and the plain law). -/
import Derived.Test.YtabifaikklcghaaOpen
import Derived.Test.YtabifaikklcghaaTr
import Derived.Test.YtabifaikklcghaaK4
import Derived.Test.YtabifaikklcghaaLh
namespace Go.Proofs.Ytabifaikklcghaa.Sy
open Go Go.RowKit
set_option linter.unusedVariables false
set_option linter.unusedSimpArgs false
set_option maxRecDepth 100000
theorem walk_LoadSteps (a0_0 : Int) (a1_0 : Nat) (a2_0 : Nat) (a2_1 : Nat) (a2_2 : Nat) (w : World) (w0_0 : (Lit.int .i64 a0_0).wf = true) (w1_0 : (Lit.float .f64 a1_0).wf = true) (w2_0 : (Lit.float .f64 a2_0).wf = true) (w2_1 : (Lit.float .f64 a2_1).wf = true) (w2_2 : (Lit.float .f64 a2_2).wf = true) :
    Calls Try.prog 11 #[.agg #[.int .i64 a0_0], .float .f64 a1_0, .agg #[.float .f64 a2_0, .float .f64 a2_1, .float .f64 a2_2]] w fun e w' => e = .returned (.bool true) ∧ Below w.heap.size w w' := by
  exact call_true ok11 (a0_0, a1_0, (a2_0, a2_1, a2_2)) w _ [.int .i64 a0_0, .float .f64 a1_0, .float .f64 a2_0, .float .f64 a2_1, .float .f64 a2_2] trivial (fun q hq => by cases hq) ⟨[.int .i64 a0_0], _, rfl, rfl, rfl, ⟨_, rfl, ⟨[.float .f64 a2_0, .float .f64 a2_1, .float .f64 a2_2], _, rfl, rfl, rfl, rfl⟩⟩⟩ (tr_of ⟨rfl, rfl, rfl, rfl, rfl, trivial⟩) (Sp.law_lsteps _ ⟨w0_0, w1_0, ⟨w2_0, w2_1, w2_2⟩⟩)
end Go.Proofs.Ytabifaikklcghaa.Sy
