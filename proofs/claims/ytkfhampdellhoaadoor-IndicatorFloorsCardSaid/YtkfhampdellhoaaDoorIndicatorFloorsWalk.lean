/- IndicatorFloors: the call of the law returns true (written by own program mkwalk.py, out of the contract and the plain law). -/
import Derived.Test.YtkfhampdellhoaaDoorOpen
import Derived.Test.YtkfhampdellhoaaDoorTr
import Derived.Test.YtkfhampdellhoaaDoorI4
import Derived.Test.YtkfhampdellhoaaDoorIa
namespace Go.Proofs.YtkfhampdellhoaaDoor.Sy
open Go Go.RowKit
set_option linter.unusedVariables false
set_option linter.unusedSimpArgs false
set_option maxRecDepth 100000
theorem pre_law (x : ct3.p.den) (h : InR ct3.p x) : ∀ q, ct3.pre = some q → q x := by
  intro q hq
  cases hq
  simp only [ct3, InR, Lit.wf, Bool.and_eq_true, decide_eq_true_eq] at h
  simp only [Sp.pre3]
  try simp only [show IntKind.u8.min = 0 from rfl, show IntKind.u8.max = 255 from rfl, show IntKind.u16.min = 0 from rfl, show IntKind.u16.max = 65535 from rfl, show IntKind.u32.min = 0 from rfl, show IntKind.u32.max = 4294967295 from rfl, show IntKind.u64.min = 0 from rfl, show IntKind.u64.max = 18446744073709551615 from rfl, show IntKind.i64.min = -9223372036854775808 from rfl, show IntKind.i64.max = 9223372036854775807 from rfl] at h
  repeat' (first | exact trivial | apply And.intro)
  all_goals omega
theorem walk_IndicatorFloors (a0_0 : Int) (a1_0 : Int) (a2_0 : Int) (w : World) (w0_0 : (Lit.int .i64 a0_0).wf = true) (w1_0 : (Lit.int .u32 a1_0).wf = true) (w2_0 : (Lit.int .u8 a2_0).wf = true) (hT : gdS.H w) :
    Calls Tryd.prog 3 #[.int .i64 a0_0, .int .u32 a1_0, .int .u8 a2_0] w fun e w' => e = .returned (.bool true) ∧ Below w.heap.size w w' := by
  exact call_true ok3 (a0_0, a1_0, a2_0) w _ [.int .i64 a0_0, .int .u32 a1_0, .int .u8 a2_0] hT (pre_law _ ⟨w0_0, w1_0, w2_0⟩) ⟨_, rfl, ⟨_, rfl, ⟨_, rfl, rfl⟩⟩⟩ (tr_of ⟨rfl, rfl, rfl, trivial⟩) (Sp.law_floors _ ⟨w0_0, w1_0, w2_0⟩)
end Go.Proofs.YtkfhampdellhoaaDoor.Sy
