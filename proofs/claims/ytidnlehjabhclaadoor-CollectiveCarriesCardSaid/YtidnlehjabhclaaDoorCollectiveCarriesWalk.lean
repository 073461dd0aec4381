/- CollectiveCarries: the call of the law returns true (written by own program mkwalk.py, out of the contract and the plain law). -/
import Derived.Test.YtidnlehjabhclaaDoorOpen
import Derived.Test.YtidnlehjabhclaaDoorTr
import Derived.Test.YtidnlehjabhclaaDoorG1
import Derived.Test.YtidnlehjabhclaaDoorCi
namespace Go.Proofs.YtidnlehjabhclaaDoor.Sy
open Go Go.RowKit
set_option linter.unusedVariables false
set_option linter.unusedSimpArgs false
set_option maxRecDepth 100000
theorem tr_T30 {w : World} (cs : List Value) (h : E_T30 cs) : ∃ x : ty30.den, TR w (fun _ _ => False) ty30 x cs ∧ InR ty30 x := by
  obtain ⟨a0, a1, a2, rfl, w0, w1, w2⟩ := h
  exact ⟨(a0, (a1, a2)), tr_of ⟨rfl, rfl, rfl, trivial⟩, ⟨w0, ⟨w1, w2⟩⟩⟩
theorem pre_law (x : ct6.p.den) (h : InR ct6.p x) : ∀ q, ct6.pre = some q → q x := by
  intro q hq
  cases hq
  simp only [ct6, InR, Lit.wf, Bool.and_eq_true, decide_eq_true_eq] at h
  simp only [Sp.pre6]
  try simp only [show IntKind.u8.min = 0 from rfl, show IntKind.u8.max = 255 from rfl, show IntKind.u16.min = 0 from rfl, show IntKind.u16.max = 65535 from rfl, show IntKind.u32.min = 0 from rfl, show IntKind.u32.max = 4294967295 from rfl, show IntKind.u64.min = 0 from rfl, show IntKind.u64.max = 18446744073709551615 from rfl, show IntKind.i64.min = -9223372036854775808 from rfl, show IntKind.i64.max = 9223372036854775807 from rfl] at h
  repeat' (first | exact trivial | apply And.intro)
  all_goals omega
theorem walk_CollectiveCarries (a0_0 : Int) (a0_1 : Int) (a0_2 : Int) (a1_0 : Int) (a1_1 : Int) (a2_0 : Value) (w : World) (w0_0 : (Lit.int .i64 a0_0).wf = true) (w0_1 : (Lit.int .i64 a0_1).wf = true) (w0_2 : (Lit.int .i64 a0_2).wf = true) (w1_0 : (Lit.int .u8 a1_0).wf = true) (w1_1 : (Lit.int .u8 a1_1).wf = true) (w2_0 : IsSlice w 3 E_T30 a2_0) (hT : gdS.H w) :
    Calls Tryd.prog 6 #[.agg #[.int .i64 a0_0, .int .i64 a0_1, .int .i64 a0_2], .agg #[.int .u8 a1_0, .int .u8 a1_1], a2_0] w fun e w' => e = .returned (.bool true) ∧ Below w.heap.size w w' := by
  obtain ⟨l2_0, t2_0, r2_0⟩ := slice_tr (e := ty30) rfl tr_T30 w2_0
  exact call_true ok6 (((a0_0, a0_1), a0_2), (a1_0, a1_1), l2_0) w _ [.int .i64 a0_0, .int .i64 a0_1, .int .i64 a0_2, .int .u8 a1_0, .int .u8 a1_1, a2_0] hT (pre_law _ ⟨⟨⟨w0_0, w0_1⟩, w0_2⟩, ⟨w1_0, w1_1⟩, r2_0⟩) ⟨[.int .i64 a0_0, .int .i64 a0_1, .int .i64 a0_2], _, rfl, rfl, rfl, ⟨[.int .u8 a1_0, .int .u8 a1_1], _, rfl, rfl, rfl, ⟨_, rfl, rfl⟩⟩⟩ (tr_of ⟨rfl, rfl, rfl, rfl, rfl, ⟨t2_0, trivial⟩, trivial⟩) (Sp.law_carries _ ⟨⟨⟨w0_0, w0_1⟩, w0_2⟩, ⟨w1_0, w1_1⟩, r2_0⟩)
end Go.Proofs.YtidnlehjabhclaaDoor.Sy
