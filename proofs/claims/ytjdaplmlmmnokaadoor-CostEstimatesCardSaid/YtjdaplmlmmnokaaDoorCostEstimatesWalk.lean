/- CostEstimates: the call of the law returns true (written by own program mkwalk.py, out of the contract and the plain law). -/
import Derived.Test.YtjdaplmlmmnokaaDoorOpen
import Derived.Test.YtjdaplmlmmnokaaDoorTr
import Derived.Test.YtjdaplmlmmnokaaDoorF0
import Derived.Test.YtjdaplmlmmnokaaDoorKd
namespace Go.Proofs.YtjdaplmlmmnokaaDoor.Sy
open Go Go.RowKit
set_option linter.unusedVariables false
set_option linter.unusedSimpArgs false
set_option maxRecDepth 100000
theorem pre_law (x : ct6.p.den) (h : InR ct6.p x) : ∀ q, ct6.pre = some q → q x := by
  intro q hq
  cases hq
  simp only [ct6, InR, Lit.wf, Bool.and_eq_true, decide_eq_true_eq] at h
  simp only [Sp.pre6]
  try simp only [show IntKind.u8.min = 0 from rfl, show IntKind.u8.max = 255 from rfl, show IntKind.u16.min = 0 from rfl, show IntKind.u16.max = 65535 from rfl, show IntKind.u32.min = 0 from rfl, show IntKind.u32.max = 4294967295 from rfl, show IntKind.u64.min = 0 from rfl, show IntKind.u64.max = 18446744073709551615 from rfl, show IntKind.i64.min = -9223372036854775808 from rfl, show IntKind.i64.max = 9223372036854775807 from rfl] at h
  repeat' (first | exact trivial | apply And.intro)
  all_goals omega
theorem walk_CostEstimates (a0_0 : Int) (a0_1 : Int) (a1_0 : Bool) (a1_1 : Bool) (a1_2 : Bool) (a1_3 : Bool) (a1_4 : Int) (a1_5 : Int) (a1_6 : Int) (a1_7 : Int) (a1_8 : Int) (a1_9 : Int) (a1_10 : Int) (a1_11 : Int) (a2_0 : Int) (a2_1 : Int) (a2_2 : Int) (a2_3 : Int) (w : World) (w0_0 : (Lit.int .u8 a0_0).wf = true) (w0_1 : (Lit.int .u8 a0_1).wf = true) (w1_4 : (Lit.int .i64 a1_4).wf = true) (w1_5 : (Lit.int .i64 a1_5).wf = true) (w1_6 : (Lit.int .i64 a1_6).wf = true) (w1_7 : (Lit.int .u32 a1_7).wf = true) (w1_8 : (Lit.int .u32 a1_8).wf = true) (w1_9 : (Lit.int .u32 a1_9).wf = true) (w1_10 : (Lit.int .u32 a1_10).wf = true) (w1_11 : (Lit.int .u32 a1_11).wf = true) (w2_0 : (Lit.int .i64 a2_0).wf = true) (w2_1 : (Lit.int .i64 a2_1).wf = true) (w2_2 : (Lit.int .i64 a2_2).wf = true) (w2_3 : (Lit.int .i64 a2_3).wf = true) (hT : gdS.H w) :
    Calls Tryd.prog 6 #[.agg #[.int .u8 a0_0, .int .u8 a0_1], .agg #[.bool a1_0, .bool a1_1, .bool a1_2, .bool a1_3, .int .i64 a1_4, .int .i64 a1_5, .int .i64 a1_6, .int .u32 a1_7, .int .u32 a1_8, .int .u32 a1_9, .int .u32 a1_10, .int .u32 a1_11], .agg #[.int .i64 a2_0, .int .i64 a2_1, .int .i64 a2_2, .int .i64 a2_3]] w fun e w' => e = .returned (.bool true) ∧ Below w.heap.size w w' := by
  exact call_true ok6 ((a0_0, a0_1), (a1_0, a1_1, a1_2, a1_3, a1_4, a1_5, a1_6, (a1_7, a1_8), (a1_9, (a1_10, a1_11))), (a2_0, a2_1, a2_2, a2_3)) w _ [.int .u8 a0_0, .int .u8 a0_1, .bool a1_0, .bool a1_1, .bool a1_2, .bool a1_3, .int .i64 a1_4, .int .i64 a1_5, .int .i64 a1_6, .int .u32 a1_7, .int .u32 a1_8, .int .u32 a1_9, .int .u32 a1_10, .int .u32 a1_11, .int .i64 a2_0, .int .i64 a2_1, .int .i64 a2_2, .int .i64 a2_3] hT (pre_law _ ⟨⟨w0_0, w0_1⟩, ⟨trivial, trivial, trivial, trivial, w1_4, w1_5, w1_6, ⟨w1_7, w1_8⟩, ⟨w1_9, ⟨w1_10, w1_11⟩⟩⟩, ⟨w2_0, w2_1, w2_2, w2_3⟩⟩) ⟨[.int .u8 a0_0, .int .u8 a0_1], _, rfl, rfl, rfl, ⟨[.bool a1_0, .bool a1_1, .bool a1_2, .bool a1_3, .int .i64 a1_4, .int .i64 a1_5, .int .i64 a1_6, .int .u32 a1_7, .int .u32 a1_8, .int .u32 a1_9, .int .u32 a1_10, .int .u32 a1_11], _, rfl, rfl, rfl, ⟨[.int .i64 a2_0, .int .i64 a2_1, .int .i64 a2_2, .int .i64 a2_3], _, rfl, rfl, rfl, rfl⟩⟩⟩ (tr_of ⟨rfl, rfl, rfl, rfl, rfl, rfl, rfl, rfl, rfl, rfl, rfl, rfl, rfl, rfl, rfl, rfl, rfl, rfl, trivial⟩) (Sp.law_estimates _ ⟨⟨w0_0, w0_1⟩, ⟨trivial, trivial, trivial, trivial, w1_4, w1_5, w1_6, ⟨w1_7, w1_8⟩, ⟨w1_9, ⟨w1_10, w1_11⟩⟩⟩, ⟨w2_0, w2_1, w2_2, w2_3⟩⟩)
end Go.Proofs.YtjdaplmlmmnokaaDoor.Sy
