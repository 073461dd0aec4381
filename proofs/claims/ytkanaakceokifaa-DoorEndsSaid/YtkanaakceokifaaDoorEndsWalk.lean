/- DoorEnds: the call of the law returns true (written by own program mkwalk.py, out of the contract and the plain law). -/
import Derived.Test.YtkanaakceokifaaOpen
import Derived.Test.YtkanaakceokifaaTr
import Derived.Test.YtkanaakceokifaaD4
import Derived.Test.YtkanaakceokifaaDg
namespace Go.Proofs.Ytkanaakceokifaa.Sy
open Go Go.RowKit
set_option linter.unusedVariables false
set_option maxRecDepth 100000
theorem tr_T5 {w : World} (cs : List Value) (h : E_T5 cs) : ∃ x : ty5.den, TR w (fun _ _ => False) ty5 x cs ∧ InR ty5 x := by
  obtain ⟨a0, rfl, w0⟩ := h
  exact ⟨a0, tr_of ⟨rfl, trivial⟩, w0⟩
theorem pre_law (x : ct8.p.den) (h : InR ct8.p x) : ∀ q, ct8.pre = some q → q x := by
  intro q hq
  cases hq
  simp only [ct8, InR, Lit.wf, Bool.and_eq_true, decide_eq_true_eq] at h
  simp only [Sp.pre8]
  simp only [show IntKind.u8.min = 0 from rfl, show IntKind.u8.max = 255 from rfl] at h
  repeat' (first | exact trivial | apply And.intro)
  all_goals omega
theorem walk_DoorEnds (a0_0 : Int) (a0_1 : Int) (a0_2 : Int) (a1_0 : Value) (w : World) (w0_0 : (Lit.int .u8 a0_0).wf = true) (w0_1 : (Lit.int .u8 a0_1).wf = true) (w0_2 : (Lit.int .u8 a0_2).wf = true) (w1_0 : IsSlice w 1 E_T5 a1_0) :
    Calls Try.prog 8 #[.agg #[.int .u8 a0_0, .int .u8 a0_1, .int .u8 a0_2], a1_0] w fun e w' => e = .returned (.bool true) ∧ Below w.heap.size w w' := by
  obtain ⟨l1_0, t1_0, r1_0⟩ := slice_tr (e := ty5) rfl tr_T5 w1_0
  exact call_true ok8 ((a0_0, a0_1, a0_2), l1_0) w _ [.int .u8 a0_0, .int .u8 a0_1, .int .u8 a0_2, a1_0] trivial (pre_law _ ⟨⟨w0_0, w0_1, w0_2⟩, r1_0⟩) ⟨[.int .u8 a0_0, .int .u8 a0_1, .int .u8 a0_2], _, rfl, rfl, rfl, ⟨_, rfl, rfl⟩⟩ (tr_of ⟨rfl, rfl, rfl, ⟨t1_0, trivial⟩, trivial⟩) (Sp.law_ends _ ⟨⟨w0_0, w0_1, w0_2⟩, r1_0⟩)
end Go.Proofs.Ytkanaakceokifaa.Sy
