/- CostMirrors: the call of the law returns true (written by own program mkwalk.py, out of the contract and the plain law). -/
import Derived.Test.YtjdaplmlmmnokaaDoorOpen
import Derived.Test.YtjdaplmlmmnokaaDoorTr
import Derived.Test.YtjdaplmlmmnokaaDoorD1
import Derived.Test.YtjdaplmlmmnokaaDoorKc
namespace Go.Proofs.YtjdaplmlmmnokaaDoor.Sy
open Go Go.RowKit
set_option linter.unusedVariables false
set_option linter.unusedSimpArgs false
set_option maxRecDepth 100000
theorem pre_law (x : ct5.p.den) (h : InR ct5.p x) : ∀ q, ct5.pre = some q → q x := by
  intro q hq
  cases hq
  simp only [ct5, InR, Lit.wf, Bool.and_eq_true, decide_eq_true_eq] at h
  simp only [Sp.pre5]
  try simp only [show IntKind.u8.min = 0 from rfl, show IntKind.u8.max = 255 from rfl, show IntKind.u16.min = 0 from rfl, show IntKind.u16.max = 65535 from rfl, show IntKind.u32.min = 0 from rfl, show IntKind.u32.max = 4294967295 from rfl, show IntKind.u64.min = 0 from rfl, show IntKind.u64.max = 18446744073709551615 from rfl, show IntKind.i64.min = -9223372036854775808 from rfl, show IntKind.i64.max = 9223372036854775807 from rfl] at h
  repeat' (first | exact trivial | apply And.intro)
  all_goals omega
theorem walk_CostMirrors (a0_0 : Int) (a1_0 : Int) (a1_1 : Int) (a1_2 : Int) (a2_0 : Int) (a2_1 : Int) (a2_2 : Int) (a2_3 : Int) (w : World) (w0_0 : (Lit.int .u8 a0_0).wf = true) (w1_0 : (Lit.int .u32 a1_0).wf = true) (w1_1 : (Lit.int .u32 a1_1).wf = true) (w1_2 : (Lit.int .u32 a1_2).wf = true) (w2_0 : (Lit.int .i64 a2_0).wf = true) (w2_1 : (Lit.int .i64 a2_1).wf = true) (w2_2 : (Lit.int .i64 a2_2).wf = true) (w2_3 : (Lit.int .i64 a2_3).wf = true) (hT : gdS.H w) :
    Calls Tryd.prog 5 #[.int .u8 a0_0, .agg #[.int .u32 a1_0, .int .u32 a1_1, .int .u32 a1_2], .agg #[.int .i64 a2_0, .int .i64 a2_1, .int .i64 a2_2, .int .i64 a2_3]] w fun e w' => e = .returned (.bool true) ∧ Below w.heap.size w w' := by
  exact call_true ok5 (a0_0, (a1_0, (a1_1, a1_2)), (a2_0, a2_1, a2_2, a2_3)) w _ [.int .u8 a0_0, .int .u32 a1_0, .int .u32 a1_1, .int .u32 a1_2, .int .i64 a2_0, .int .i64 a2_1, .int .i64 a2_2, .int .i64 a2_3] hT (pre_law _ ⟨w0_0, ⟨w1_0, ⟨w1_1, w1_2⟩⟩, ⟨w2_0, w2_1, w2_2, w2_3⟩⟩) ⟨_, rfl, ⟨[.int .u32 a1_0, .int .u32 a1_1, .int .u32 a1_2], _, rfl, rfl, rfl, ⟨[.int .i64 a2_0, .int .i64 a2_1, .int .i64 a2_2, .int .i64 a2_3], _, rfl, rfl, rfl, rfl⟩⟩⟩ (tr_of ⟨rfl, rfl, rfl, rfl, rfl, rfl, rfl, rfl, trivial⟩) (Sp.law_mirrors _ ⟨w0_0, ⟨w1_0, ⟨w1_1, w1_2⟩⟩, ⟨w2_0, w2_1, w2_2, w2_3⟩⟩)
end Go.Proofs.YtjdaplmlmmnokaaDoor.Sy
