/- RigSteps: the call of the law returns true (written by own program mkwalk.py, out of the contract and the plain law). -/
import Derived.Test.YtjdaplmlmmnokaaOpen
import Derived.Test.YtjdaplmlmmnokaaTr
import Derived.Test.YtjdaplmlmmnokaaR4
import Derived.Test.YtjdaplmlmmnokaaRk
namespace Go.Proofs.Ytjdaplmlmmnokaa.Sy
open Go Go.RowKit
set_option linter.unusedVariables false
set_option maxRecDepth 100000
theorem tr_T30 {w : World} (cs : List Value) (h : E_T30 cs) : ∃ x : ty30.den, TR w (fun _ _ => False) ty30 x cs ∧ InR ty30 x := by
  obtain ⟨a0, a1, rfl, w0, w1⟩ := h
  exact ⟨(a0, a1), tr_of ⟨rfl, rfl, trivial⟩, ⟨w0, w1⟩⟩
theorem walk_RigSteps (a0_0 : Int) (a1_0 : Int) (a1_1 : Int) (a1_2 : Int) (a1_3 : Int) (a1_4 : Int) (a1_5 : Int) (a2_0 : Value) (w : World) (w0_0 : (Lit.int .i64 a0_0).wf = true) (w1_0 : (Lit.int .i64 a1_0).wf = true) (w1_1 : (Lit.int .i64 a1_1).wf = true) (w1_2 : (Lit.int .i64 a1_2).wf = true) (w1_3 : (Lit.int .i64 a1_3).wf = true) (w1_4 : (Lit.int .i64 a1_4).wf = true) (w1_5 : (Lit.int .i64 a1_5).wf = true) (w2_0 : IsSlice w 2 E_T30 a2_0) :
    Calls Try.prog 3 #[.int .i64 a0_0, .agg #[.int .i64 a1_0, .int .i64 a1_1, .int .i64 a1_2, .int .i64 a1_3, .int .i64 a1_4, .int .i64 a1_5], a2_0] w fun e w' => e = .returned (.bool true) ∧ Below w.heap.size w w' := by
  obtain ⟨l2_0, t2_0, r2_0⟩ := slice_tr (e := ty30) rfl tr_T30 w2_0
  exact call_true ok3 (a0_0, (a1_0, a1_1, a1_2, a1_3, a1_4, a1_5), l2_0) w _ [.int .i64 a0_0, .int .i64 a1_0, .int .i64 a1_1, .int .i64 a1_2, .int .i64 a1_3, .int .i64 a1_4, .int .i64 a1_5, a2_0] trivial (fun q hq => by cases hq) ⟨_, rfl, ⟨[.int .i64 a1_0, .int .i64 a1_1, .int .i64 a1_2, .int .i64 a1_3, .int .i64 a1_4, .int .i64 a1_5], _, rfl, rfl, rfl, ⟨_, rfl, rfl⟩⟩⟩ (tr_of ⟨rfl, rfl, rfl, rfl, rfl, rfl, rfl, ⟨t2_0, trivial⟩, trivial⟩) (Sp.law_steps _ ⟨w0_0, ⟨w1_0, w1_1, w1_2, w1_3, w1_4, w1_5⟩, r2_0⟩)
end Go.Proofs.Ytjdaplmlmmnokaa.Sy
