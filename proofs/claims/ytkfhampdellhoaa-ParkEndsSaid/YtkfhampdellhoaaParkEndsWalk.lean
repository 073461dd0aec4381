/- ParkEnds: the call of the law returns true (written by own program mkwalk.py, out of the contract and the plain law). -/
import Derived.Test.YtkfhampdellhoaaOpen
import Derived.Test.YtkfhampdellhoaaTr
import Derived.Test.YtkfhampdellhoaaP2
import Derived.Test.YtkfhampdellhoaaPaL
namespace Go.Proofs.Ytkfhampdellhoaa.Sy
open Go Go.RowKit
set_option linter.unusedVariables false
set_option maxRecDepth 100000
theorem pre_law (x : ct8.p.den) (h : InR ct8.p x) : ∀ q, ct8.pre = some q → q x := by
  intro q hq
  cases hq
  simp only [ct8, InR, Lit.wf, Bool.and_eq_true, decide_eq_true_eq] at h
  simp only [Sp.pre8]
  simp only [show IntKind.u8.min = 0 from rfl, show IntKind.u8.max = 255 from rfl] at h
  repeat' (first | exact trivial | apply And.intro)
  all_goals omega
theorem walk_ParkEnds (a0_0 : Int) (a1_0 : Int) (a2_0 : Int) (w : World) (w0_0 : (Lit.int .u8 a0_0).wf = true) (w1_0 : (Lit.int .u8 a1_0).wf = true) (w2_0 : (Lit.int .u8 a2_0).wf = true) :
    Calls Try.prog 8 #[.int .u8 a0_0, .int .u8 a1_0, .int .u8 a2_0] w fun e w' => e = .returned (.bool true) ∧ Below w.heap.size w w' := by
  exact call_true ok8 (a0_0, a1_0, a2_0) w _ [.int .u8 a0_0, .int .u8 a1_0, .int .u8 a2_0] trivial (pre_law _ ⟨w0_0, w1_0, w2_0⟩) ⟨_, rfl, ⟨_, rfl, ⟨_, rfl, rfl⟩⟩⟩ (tr_of ⟨rfl, rfl, rfl, trivial⟩) (Sp.law_ends _ ⟨w0_0, w1_0, w2_0⟩)
end Go.Proofs.Ytkfhampdellhoaa.Sy
