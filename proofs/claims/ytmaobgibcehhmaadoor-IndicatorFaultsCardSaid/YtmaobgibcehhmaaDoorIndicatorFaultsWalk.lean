/- IndicatorFaults: the call of the law returns true (written by own program mkwalk.py, out of the contract and the plain law). -/
import Derived.Test.YtmaobgibcehhmaaDoorOpen
import Derived.Test.YtmaobgibcehhmaaDoorTr
import Derived.Test.YtmaobgibcehhmaaDoorI4
import Derived.Test.YtmaobgibcehhmaaDoorIc
namespace Go.Proofs.YtmaobgibcehhmaaDoor.Sy
open Go Go.RowKit
set_option linter.unusedVariables false
set_option linter.unusedSimpArgs false
set_option maxRecDepth 100000
theorem pre_law (x : ct3.p.den) (h : InR ct3.p x) : ∀ q, ct3.pre = some q → q x := by
  intro q hq
  cases hq
  simp only [ct3, InR, Lit.wf, Bool.and_eq_true, decide_eq_true_eq] at h
  simp only [Sp.pre3]
  try simp only [show IntKind.u8.min = 0 from rfl, show IntKind.u8.max = 255 from rfl, show IntKind.u16.min = 0 from rfl, show IntKind.u16.max = 65535 from rfl, show IntKind.u32.min = 0 from rfl, show IntKind.u32.max = 4294967295 from rfl, show IntKind.u64.min = 0 from rfl, show IntKind.u64.max = 18446744073709551615 from rfl, show IntKind.i64.min = -9223372036854775808 from rfl, show IntKind.i64.max = 9223372036854775807 from rfl] at h
  repeat' (first | exact trivial | apply And.intro)
  all_goals first | omega | (intro v hv; first | exact h.2.2.2 v hv | exact h.2.2 v hv | exact h.2 v hv | exact h.1.2 v hv | exact h.2.1.2 v hv | exact h.2.2.1.2 v hv | exact h.2.2.2.2 v hv)
theorem walk_IndicatorFaults (a0_0 : Int) (a1_0 : Int) (a1_1 : Bool) (a1_2 : Bool) (a1_3 : Bool) (a1_4 : Bool) (a2_0 : Int) (a2_1 : Int) (w : World) (w0_0 : (Lit.int .u8 a0_0).wf = true) (w1_0 : (Lit.int .u32 a1_0).wf = true) (w2_0 : (Lit.int .u8 a2_0).wf = true) (w2_1 : (Lit.int .u8 a2_1).wf = true) (hT : gdS.H w) :
    Calls Tryd.prog 3 #[.int .u8 a0_0, .agg #[.int .u32 a1_0, .bool a1_1, .bool a1_2, .bool a1_3, .bool a1_4], .agg #[.int .u8 a2_0, .int .u8 a2_1]] w fun e w' => e = .returned (.bool true) ∧ Below w.heap.size w w' := by
  exact call_true ok3 (a0_0, (a1_0, a1_1, a1_2, a1_3, a1_4), (a2_0, a2_1)) w _ [.int .u8 a0_0, .int .u32 a1_0, .bool a1_1, .bool a1_2, .bool a1_3, .bool a1_4, .int .u8 a2_0, .int .u8 a2_1] hT (pre_law _ ⟨w0_0, ⟨w1_0, trivial, trivial, trivial, trivial⟩, ⟨w2_0, w2_1⟩⟩) ⟨_, rfl, ⟨[.int .u32 a1_0, .bool a1_1, .bool a1_2, .bool a1_3, .bool a1_4], _, rfl, rfl, rfl, ⟨[.int .u8 a2_0, .int .u8 a2_1], _, rfl, rfl, rfl, rfl⟩⟩⟩ (tr_of ⟨rfl, rfl, rfl, rfl, rfl, rfl, rfl, rfl, trivial⟩) (Sp.law_ifaults _ ⟨w0_0, ⟨w1_0, trivial, trivial, trivial, trivial⟩, ⟨w2_0, w2_1⟩⟩)
end Go.Proofs.YtmaobgibcehhmaaDoor.Sy
