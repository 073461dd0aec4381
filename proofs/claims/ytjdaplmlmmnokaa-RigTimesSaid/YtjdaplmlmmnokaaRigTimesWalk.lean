/- RigTimes: the call of the law returns true (written by own program mkwalk.py, out of the contract and the plain law). -/
import Derived.Test.YtjdaplmlmmnokaaOpen
import Derived.Test.YtjdaplmlmmnokaaTr
import Derived.Test.YtjdaplmlmmnokaaR4
import Derived.Test.YtjdaplmlmmnokaaRm
namespace Go.Proofs.Ytjdaplmlmmnokaa.Sy
open Go Go.RowKit
set_option linter.unusedVariables false
set_option maxRecDepth 100000
theorem pre_law (x : ct4.p.den) (h : InR ct4.p x) : ∀ q, ct4.pre = some q → q x := by
  intro q hq
  cases hq
  simp only [ct4, InR, Lit.wf, Bool.and_eq_true, decide_eq_true_eq] at h
  simp only [Sp.pre4]
  simp only [show IntKind.u8.min = 0 from rfl, show IntKind.u8.max = 255 from rfl] at h
  repeat' (first | exact trivial | apply And.intro)
  all_goals omega
theorem walk_RigTimes (a0_0 : Int) (a1_0 : Int) (a1_1 : Int) (a2_0 : Int) (w : World) (w0_0 : (Lit.int .u8 a0_0).wf = true) (w1_0 : (Lit.int .u8 a1_0).wf = true) (w1_1 : (Lit.int .u8 a1_1).wf = true) (w2_0 : (Lit.int .u8 a2_0).wf = true) :
    Calls Try.prog 4 #[.int .u8 a0_0, .agg #[.int .u8 a1_0, .int .u8 a1_1], .int .u8 a2_0] w fun e w' => e = .returned (.bool true) ∧ Below w.heap.size w w' := by
  exact call_true ok4 (a0_0, (a1_0, a1_1), a2_0) w _ [.int .u8 a0_0, .int .u8 a1_0, .int .u8 a1_1, .int .u8 a2_0] trivial (pre_law _ ⟨w0_0, ⟨w1_0, w1_1⟩, w2_0⟩) ⟨_, rfl, ⟨[.int .u8 a1_0, .int .u8 a1_1], _, rfl, rfl, rfl, ⟨_, rfl, rfl⟩⟩⟩ (tr_of ⟨rfl, rfl, rfl, rfl, trivial⟩) (Sp.law_times _ ⟨w0_0, ⟨w1_0, w1_1⟩, w2_0⟩)
end Go.Proofs.Ytjdaplmlmmnokaa.Sy
