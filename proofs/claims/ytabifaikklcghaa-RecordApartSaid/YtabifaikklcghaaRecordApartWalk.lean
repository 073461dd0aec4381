/- RecordApart: the call of the law returns true (written by own program mkwalk.py, out of the contract and the plain law). -/
import Derived.Test.YtabifaikklcghaaOpen
import Derived.Test.YtabifaikklcghaaTr
import Derived.Test.YtabifaikklcghaaY5
import Derived.Test.YtabifaikklcghaaRd
namespace Go.Proofs.Ytabifaikklcghaa.Sy
open Go Go.RowKit
set_option linter.unusedVariables false
set_option linter.unusedSimpArgs false
set_option maxRecDepth 100000
theorem tr_T5 {w : World} (cs : List Value) (h : E_T5 cs) : ∃ x : ty5.den, TR w (fun _ _ => False) ty5 x cs ∧ InR ty5 x := by
  obtain ⟨a0, rfl, w0⟩ := h
  exact ⟨a0, tr_of ⟨rfl, trivial⟩, w0⟩
theorem pre_law (x : ct4.p.den) (h : InR ct4.p x) : ∀ q, ct4.pre = some q → q x := by
  intro q hq
  cases hq
  simp only [ct4, InR, Lit.wf, Bool.and_eq_true, decide_eq_true_eq] at h
  simp only [Sp.pre4]
  try simp only [show IntKind.u8.min = 0 from rfl, show IntKind.u8.max = 255 from rfl, show IntKind.u16.min = 0 from rfl, show IntKind.u16.max = 65535 from rfl, show IntKind.u32.min = 0 from rfl, show IntKind.u32.max = 4294967295 from rfl, show IntKind.u64.min = 0 from rfl, show IntKind.u64.max = 18446744073709551615 from rfl, show IntKind.i64.min = -9223372036854775808 from rfl, show IntKind.i64.max = 9223372036854775807 from rfl] at h
  repeat' (first | exact trivial | apply And.intro)
  all_goals first | omega | (intro v hv; first | exact h.2.2.2 v hv | exact h.2.2 v hv | exact h.2 v hv | exact h.1.2 v hv | exact h.2.1.2 v hv | exact h.2.2.1.2 v hv | exact h.2.2.2.2 v hv)
theorem walk_RecordApart (a0_0 : Int) (a1_0 : Value) (a2_0 : Value) (w : World) (w0_0 : (Lit.int .u8 a0_0).wf = true) (w1_0 : IsSlice w 1 E_T5 a1_0) (w2_0 : IsSlice w 1 E_T5 a2_0) :
    Calls Try.prog 4 #[.int .u8 a0_0, a1_0, a2_0] w fun e w' => e = .returned (.bool true) ∧ Below w.heap.size w w' := by
  obtain ⟨l1_0, t1_0, r1_0⟩ := slice_tr (e := ty5) rfl tr_T5 w1_0
  obtain ⟨l2_0, t2_0, r2_0⟩ := slice_tr (e := ty5) rfl tr_T5 w2_0
  exact call_true ok4 (a0_0, l1_0, l2_0) w _ [.int .u8 a0_0, a1_0, a2_0] trivial (pre_law _ ⟨w0_0, r1_0, r2_0⟩) ⟨_, rfl, ⟨_, rfl, ⟨_, rfl, rfl⟩⟩⟩ (tr_of ⟨rfl, ⟨t1_0, trivial⟩, ⟨t2_0, trivial⟩, trivial⟩) (Sp.law_apart _ ⟨w0_0, r1_0, r2_0⟩)
end Go.Proofs.Ytabifaikklcghaa.Sy
