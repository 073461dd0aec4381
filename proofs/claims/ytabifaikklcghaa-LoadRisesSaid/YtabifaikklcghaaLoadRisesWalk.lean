/- LoadRises: the call of the law returns true (written by own program mkwalk.py, out of the contract and the plain law). -/
import Derived.Test.YtabifaikklcghaaOpen
import Derived.Test.YtabifaikklcghaaTr
import Derived.Test.YtabifaikklcghaaK2
import Derived.Test.YtabifaikklcghaaLf
namespace Go.Proofs.Ytabifaikklcghaa.Sy
open Go Go.RowKit
set_option linter.unusedVariables false
set_option linter.unusedSimpArgs false
set_option maxRecDepth 100000
theorem tr_T25 {w : World} (cs : List Value) (h : E_T25 cs) : ∃ x : ty25.den, TR w (fun _ _ => False) ty25 x cs ∧ InR ty25 x := by
  obtain ⟨a0, rfl, w0⟩ := h
  exact ⟨a0, tr_of ⟨rfl, trivial⟩, w0⟩
theorem walk_LoadRises (a0_0 : Value) (a1_0 : Nat) (a1_1 : Nat) (a1_2 : Nat) (w : World) (w0_0 : IsSlice w 1 E_T25 a0_0) (w1_0 : (Lit.float .f64 a1_0).wf = true) (w1_1 : (Lit.float .f64 a1_1).wf = true) (w1_2 : (Lit.float .f64 a1_2).wf = true) :
    Calls Try.prog 6 #[a0_0, .agg #[.float .f64 a1_0, .float .f64 a1_1, .float .f64 a1_2]] w fun e w' => e = .returned (.bool true) ∧ Below w.heap.size w w' := by
  obtain ⟨l0_0, t0_0, r0_0⟩ := slice_tr (e := ty25) rfl tr_T25 w0_0
  exact call_true ok6 (l0_0, (a1_0, a1_1, a1_2)) w _ [a0_0, .float .f64 a1_0, .float .f64 a1_1, .float .f64 a1_2] trivial (fun q hq => by cases hq) ⟨_, rfl, ⟨[.float .f64 a1_0, .float .f64 a1_1, .float .f64 a1_2], _, rfl, rfl, rfl, rfl⟩⟩ (tr_of ⟨⟨t0_0, trivial⟩, rfl, rfl, rfl, trivial⟩) (Sp.law_rises _ ⟨r0_0, ⟨w1_0, w1_1, w1_2⟩⟩)
end Go.Proofs.Ytabifaikklcghaa.Sy
