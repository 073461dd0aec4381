/- IndicatorOne: the call of the law returns true (written by own program mkwalk.py, out of the contract and the plain law). -/
import Derived.Test.YtkfhampdellhoaaDoorOpen
import Derived.Test.YtkfhampdellhoaaDoorTr
import Derived.Test.YtkfhampdellhoaaDoorI4
import Derived.Test.YtkfhampdellhoaaDoorIb
namespace Go.Proofs.YtkfhampdellhoaaDoor.Sy
open Go Go.RowKit
set_option linter.unusedVariables false
set_option linter.unusedSimpArgs false
set_option maxRecDepth 100000
theorem pre_law (x : ct6.p.den) (h : InR ct6.p x) : ∀ q, ct6.pre = some q → q x := by
  intro q hq
  cases hq
  simp only [ct6, InR, Lit.wf, Bool.and_eq_true, decide_eq_true_eq] at h
  simp only [Sp.pre6]
  try simp only [show IntKind.u8.min = 0 from rfl, show IntKind.u8.max = 255 from rfl, show IntKind.u16.min = 0 from rfl, show IntKind.u16.max = 65535 from rfl, show IntKind.u32.min = 0 from rfl, show IntKind.u32.max = 4294967295 from rfl, show IntKind.u64.min = 0 from rfl, show IntKind.u64.max = 18446744073709551615 from rfl, show IntKind.i64.min = -9223372036854775808 from rfl, show IntKind.i64.max = 9223372036854775807 from rfl] at h
  repeat' (first | exact trivial | apply And.intro)
  all_goals omega
theorem walk_IndicatorOne (a0_0 : Int) (a1_0 : Int) (a1_1 : Bool) (a1_2 : Bool) (a1_3 : Bool) (a1_4 : Bool) (w : World) (w0_0 : (Lit.int .u8 a0_0).wf = true) (w1_0 : (Lit.int .u32 a1_0).wf = true) (hT : gdS.H w) :
    Calls Tryd.prog 6 #[.int .u8 a0_0, .agg #[.int .u32 a1_0, .bool a1_1, .bool a1_2, .bool a1_3, .bool a1_4]] w fun e w' => e = .returned (.bool true) ∧ Below w.heap.size w w' := by
  exact call_true ok6 (a0_0, (a1_0, a1_1, a1_2, a1_3, a1_4)) w _ [.int .u8 a0_0, .int .u32 a1_0, .bool a1_1, .bool a1_2, .bool a1_3, .bool a1_4] hT (pre_law _ ⟨w0_0, ⟨w1_0, trivial, trivial, trivial, trivial⟩⟩) ⟨_, rfl, ⟨[.int .u32 a1_0, .bool a1_1, .bool a1_2, .bool a1_3, .bool a1_4], _, rfl, rfl, rfl, rfl⟩⟩ (tr_of ⟨rfl, rfl, rfl, rfl, rfl, rfl, trivial⟩) (Sp.law_one _ ⟨w0_0, ⟨w1_0, trivial, trivial, trivial, trivial⟩⟩)
end Go.Proofs.YtkfhampdellhoaaDoor.Sy
