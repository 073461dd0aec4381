/- BuildingFaults: the call of the law returns true (written by own program mkwalk.py, out of the contract and the plain law). -/
import Derived.Test.YtghlpolodjlgjaaOpen
import Derived.Test.YtghlpolodjlgjaaTr
import Derived.Test.YtghlpolodjlgjaaB4
import Derived.Test.YtghlpolodjlgjaaBuS
namespace Go.Proofs.Ytghlpolodjlgjaa.Sy
open Go Go.RowKit
set_option linter.unusedVariables false
set_option linter.unusedSimpArgs false
set_option maxRecDepth 100000
theorem pre_law (x : ct3.p.den) (h : InR ct3.p x) : ∀ q, ct3.pre = some q → q x := by
  intro q hq
  cases hq
  simp only [ct3, InR, Lit.wf, Bool.and_eq_true, decide_eq_true_eq] at h
  simp only [Sp.pre3]
  try simp only [show IntKind.u8.min = 0 from rfl, show IntKind.u8.max = 255 from rfl, show IntKind.u16.min = 0 from rfl, show IntKind.u16.max = 65535 from rfl, show IntKind.u32.min = 0 from rfl, show IntKind.u32.max = 4294967295 from rfl, show IntKind.u64.min = 0 from rfl, show IntKind.u64.max = 18446744073709551615 from rfl, show IntKind.i64.min = -9223372036854775808 from rfl, show IntKind.i64.max = 9223372036854775807 from rfl] at h
  repeat' (first | exact trivial | apply And.intro)
  all_goals first | omega | (intro v hv; first | exact h.2.2.2 v hv | exact h.2.2 v hv | exact h.2 v hv | exact h.1.2 v hv | exact h.2.1.2 v hv | exact h.2.2.1.2 v hv | exact h.2.2.2.2 v hv)
theorem walk_BuildingFaults (a0_0 : Int) (a1_0 : Int) (a2_0 : Int) (a2_1 : Int) (w : World) (w0_0 : (Lit.int .u8 a0_0).wf = true) (w1_0 : (Lit.int .u8 a1_0).wf = true) (w2_0 : (Lit.int .u8 a2_0).wf = true) (w2_1 : (Lit.int .u8 a2_1).wf = true) :
    Calls Try.prog 3 #[.int .u8 a0_0, .int .u8 a1_0, .agg #[.int .u8 a2_0, .int .u8 a2_1]] w fun e w' => e = .returned (.bool true) ∧ Below w.heap.size w w' := by
  exact call_true ok3 (a0_0, a1_0, (a2_0, a2_1)) w _ [.int .u8 a0_0, .int .u8 a1_0, .int .u8 a2_0, .int .u8 a2_1] trivial (pre_law _ ⟨w0_0, w1_0, ⟨w2_0, w2_1⟩⟩) ⟨_, rfl, ⟨_, rfl, ⟨[.int .u8 a2_0, .int .u8 a2_1], _, rfl, rfl, rfl, rfl⟩⟩⟩ (tr_of ⟨rfl, rfl, rfl, rfl, trivial⟩) (Sp.law_bfaults _ ⟨w0_0, w1_0, ⟨w2_0, w2_1⟩⟩)
end Go.Proofs.Ytghlpolodjlgjaa.Sy
