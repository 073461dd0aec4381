/- RigSafe: the call of the law returns true (written by own program mkwalk.py, out of the contract and the plain law). -/
import Derived.Test.YtjdaplmlmmnokaaOpen
import Derived.Test.YtjdaplmlmmnokaaTr
import Derived.Test.YtjdaplmlmmnokaaR4
import Derived.Test.YtjdaplmlmmnokaaRk
namespace Go.Proofs.Ytjdaplmlmmnokaa.Sy
open Go Go.RowKit
set_option linter.unusedVariables false
set_option maxRecDepth 100000
theorem tr_T30 {w : World} (cs : List Value) (h : E_T30 cs) : ∃ x : ty30.den, TR w (fun _ _ => False) ty30 x cs ∧ InR ty30 x := by
  obtain ⟨a0, a1, rfl, w0, w1⟩ := h
  exact ⟨(a0, a1), tr_of ⟨rfl, rfl, trivial⟩, ⟨w0, w1⟩⟩
theorem pre_law (x : ct5.p.den) (h : InR ct5.p x) : ∀ q, ct5.pre = some q → q x := by
  intro q hq
  cases hq
  simp only [ct5, InR, Lit.wf, Bool.and_eq_true, decide_eq_true_eq] at h
  simp only [Sp.pre5]
  simp only [show IntKind.u8.min = 0 from rfl, show IntKind.u8.max = 255 from rfl] at h
  repeat' (first | exact trivial | apply And.intro)
  all_goals omega
theorem walk_RigSafe (a0_0 : Int) (a1_0 : Value) (w : World) (w0_0 : (Lit.int .u8 a0_0).wf = true) (w1_0 : IsSlice w 2 E_T30 a1_0) :
    Calls Try.prog 5 #[.int .u8 a0_0, a1_0] w fun e w' => e = .returned (.bool true) ∧ Below w.heap.size w w' := by
  obtain ⟨l1_0, t1_0, r1_0⟩ := slice_tr (e := ty30) rfl tr_T30 w1_0
  exact call_true ok5 (a0_0, l1_0) w _ [.int .u8 a0_0, a1_0] trivial (pre_law _ ⟨w0_0, r1_0⟩) ⟨_, rfl, ⟨_, rfl, rfl⟩⟩ (tr_of ⟨rfl, ⟨t1_0, trivial⟩, trivial⟩) (Sp.law_safe _ ⟨w0_0, r1_0⟩)
end Go.Proofs.Ytjdaplmlmmnokaa.Sy
