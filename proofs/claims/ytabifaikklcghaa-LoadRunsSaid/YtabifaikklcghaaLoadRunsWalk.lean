/- LoadRuns: the call of the law returns true (written by own program mkwalk.py, out of the contract and the plain law). -/
import Derived.Test.YtabifaikklcghaaOpen
import Derived.Test.YtabifaikklcghaaTr
import Derived.Test.YtabifaikklcghaaK2
import Derived.Test.YtabifaikklcghaaLf
namespace Go.Proofs.Ytabifaikklcghaa.Sy
open Go Go.RowKit
set_option linter.unusedVariables false
set_option linter.unusedSimpArgs false
set_option maxRecDepth 100000
theorem tr_T25 {w : World} (cs : List Value) (h : E_T25 cs) : ∃ x : ty25.den, TR w (fun _ _ => False) ty25 x cs ∧ InR ty25 x := by
  obtain ⟨a0, rfl, w0⟩ := h
  exact ⟨a0, tr_of ⟨rfl, trivial⟩, w0⟩
theorem pre_law (x : ct5.p.den) (h : InR ct5.p x) : ∀ q, ct5.pre = some q → q x := by
  intro q hq
  cases hq
  simp only [ct5, InR, Lit.wf, Bool.and_eq_true, decide_eq_true_eq] at h
  simp only [Sp.pre5]
  try simp only [show IntKind.u8.min = 0 from rfl, show IntKind.u8.max = 255 from rfl, show IntKind.u16.min = 0 from rfl, show IntKind.u16.max = 65535 from rfl, show IntKind.u32.min = 0 from rfl, show IntKind.u32.max = 4294967295 from rfl, show IntKind.u64.min = 0 from rfl, show IntKind.u64.max = 18446744073709551615 from rfl, show IntKind.i64.min = -9223372036854775808 from rfl, show IntKind.i64.max = 9223372036854775807 from rfl] at h
  repeat' (first | exact trivial | apply And.intro)
  all_goals omega
theorem walk_LoadRuns (a0_0 : Value) (a1_0 : Nat) (a1_1 : Nat) (a1_2 : Nat) (a2_0 : Int) (w : World) (w0_0 : IsSlice w 1 E_T25 a0_0) (w1_0 : (Lit.float .f64 a1_0).wf = true) (w1_1 : (Lit.float .f64 a1_1).wf = true) (w1_2 : (Lit.float .f64 a1_2).wf = true) (w2_0 : (Lit.int .u8 a2_0).wf = true) :
    Calls Try.prog 5 #[a0_0, .agg #[.float .f64 a1_0, .float .f64 a1_1, .float .f64 a1_2], .int .u8 a2_0] w fun e w' => e = .returned (.bool true) ∧ Below w.heap.size w w' := by
  obtain ⟨l0_0, t0_0, r0_0⟩ := slice_tr (e := ty25) rfl tr_T25 w0_0
  exact call_true ok5 (l0_0, (a1_0, a1_1, a1_2), a2_0) w _ [a0_0, .float .f64 a1_0, .float .f64 a1_1, .float .f64 a1_2, .int .u8 a2_0] trivial (pre_law _ ⟨r0_0, ⟨w1_0, w1_1, w1_2⟩, w2_0⟩) ⟨_, rfl, ⟨[.float .f64 a1_0, .float .f64 a1_1, .float .f64 a1_2], _, rfl, rfl, rfl, ⟨_, rfl, rfl⟩⟩⟩ (tr_of ⟨⟨t0_0, trivial⟩, rfl, rfl, rfl, rfl, trivial⟩) (Sp.law_runs _ ⟨r0_0, ⟨w1_0, w1_1, w1_2⟩, w2_0⟩)
end Go.Proofs.Ytabifaikklcghaa.Sy
