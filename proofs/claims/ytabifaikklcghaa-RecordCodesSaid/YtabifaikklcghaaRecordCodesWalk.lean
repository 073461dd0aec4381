/- RecordCodes: the call of the law returns true (written by own program mkwalk.py, out of the contract and the plain law). -/
import Derived.Test.YtabifaikklcghaaOpen
import Derived.Test.YtabifaikklcghaaTr
import Derived.Test.YtabifaikklcghaaY5
import Derived.Test.YtabifaikklcghaaRd
namespace Go.Proofs.Ytabifaikklcghaa.Sy
open Go Go.RowKit
set_option linter.unusedVariables false
set_option linter.unusedSimpArgs false
set_option maxRecDepth 100000
theorem pre_law (x : ct3.p.den) (h : InR ct3.p x) : ∀ q, ct3.pre = some q → q x := by
  intro q hq
  cases hq
  simp only [ct3, InR, Lit.wf, Bool.and_eq_true, decide_eq_true_eq] at h
  simp only [Sp.pre3]
  try simp only [show IntKind.u8.min = 0 from rfl, show IntKind.u8.max = 255 from rfl, show IntKind.u16.min = 0 from rfl, show IntKind.u16.max = 65535 from rfl, show IntKind.u32.min = 0 from rfl, show IntKind.u32.max = 4294967295 from rfl, show IntKind.u64.min = 0 from rfl, show IntKind.u64.max = 18446744073709551615 from rfl, show IntKind.i64.min = -9223372036854775808 from rfl, show IntKind.i64.max = 9223372036854775807 from rfl] at h
  repeat' (first | exact trivial | apply And.intro)
  all_goals first | omega | (intro v hv; first | exact h.2.2.2 v hv | exact h.2.2 v hv | exact h.2 v hv | exact h.1.2 v hv | exact h.2.1.2 v hv | exact h.2.2.1.2 v hv | exact h.2.2.2.2 v hv)
theorem walk_RecordCodes (a0_0 : Int) (a1_0 : Int) (a1_1 : Int) (a1_2 : Int) (a1_3 : Int) (a1_4 : Int) (a2_0 : ByteArray) (w : World) (w0_0 : (Lit.int .u8 a0_0).wf = true) (w1_0 : (Lit.int .i64 a1_0).wf = true) (w1_1 : (Lit.int .i64 a1_1).wf = true) (w1_2 : (Lit.int .i64 a1_2).wf = true) (w1_3 : (Lit.int .i64 a1_3).wf = true) (w1_4 : (Lit.int .i64 a1_4).wf = true) (w2_0 : a2_0.size ≤ maxLen) :
    Calls Try.prog 3 #[.int .u8 a0_0, .agg #[.int .i64 a1_0, .int .i64 a1_1, .int .i64 a1_2, .int .i64 a1_3, .int .i64 a1_4], .string a2_0] w fun e w' => e = .returned (.bool true) ∧ Below w.heap.size w w' := by
  exact call_true ok3 (a0_0, (a1_0, a1_1, a1_2, a1_3, a1_4), a2_0) w _ [.int .u8 a0_0, .int .i64 a1_0, .int .i64 a1_1, .int .i64 a1_2, .int .i64 a1_3, .int .i64 a1_4, .string a2_0] trivial (pre_law _ ⟨w0_0, ⟨w1_0, w1_1, w1_2, w1_3, w1_4⟩, w2_0⟩) ⟨_, rfl, ⟨[.int .i64 a1_0, .int .i64 a1_1, .int .i64 a1_2, .int .i64 a1_3, .int .i64 a1_4], _, rfl, rfl, rfl, ⟨_, rfl, rfl⟩⟩⟩ (tr_of ⟨rfl, rfl, rfl, rfl, rfl, rfl, rfl, trivial⟩) (Sp.law_codes _ ⟨w0_0, ⟨w1_0, w1_1, w1_2, w1_3, w1_4⟩, w2_0⟩)
end Go.Proofs.Ytabifaikklcghaa.Sy
