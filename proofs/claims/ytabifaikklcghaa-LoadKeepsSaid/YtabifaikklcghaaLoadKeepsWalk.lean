/- LoadKeeps: the call of the law returns true (written by own program mkwalk.py, out of the contract and the plain law). -/
import Derived.Test.YtabifaikklcghaaOpen
import Derived.Test.YtabifaikklcghaaTr
import Derived.Test.YtabifaikklcghaaK2
import Derived.Test.YtabifaikklcghaaLg
namespace Go.Proofs.Ytabifaikklcghaa.Sy
open Go Go.RowKit
set_option linter.unusedVariables false
set_option linter.unusedSimpArgs false
set_option maxRecDepth 100000
theorem tr_T25 {w : World} (cs : List Value) (h : E_T25 cs) : ∃ x : ty25.den, TR w (fun _ _ => False) ty25 x cs ∧ InR ty25 x := by
  obtain ⟨a0, rfl, w0⟩ := h
  exact ⟨a0, tr_of ⟨rfl, trivial⟩, w0⟩
theorem walk_LoadKeeps (a0_0 : Value) (w : World) (w0_0 : IsSlice w 1 E_T25 a0_0) :
    Calls Try.prog 7 #[a0_0] w fun e w' => e = .returned (.bool true) ∧ Below w.heap.size w w' := by
  obtain ⟨l0_0, t0_0, r0_0⟩ := slice_tr (e := ty25) rfl tr_T25 w0_0
  exact call_true ok7 l0_0 w _ [a0_0] trivial (fun q hq => by cases hq) ⟨_, rfl, rfl⟩ (tr_of ⟨⟨t0_0, trivial⟩, trivial⟩) (Sp.law_keeps _ r0_0)
end Go.Proofs.Ytabifaikklcghaa.Sy
