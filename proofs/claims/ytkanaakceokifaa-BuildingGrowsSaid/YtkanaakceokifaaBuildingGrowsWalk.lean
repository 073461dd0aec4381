/- BuildingGrows: the call of the law returns true (written by own program mkwalk.py, out of the contract and the plain law). -/
import Derived.Test.YtkanaakceokifaaOpen
import Derived.Test.YtkanaakceokifaaTr
import Derived.Test.YtkanaakceokifaaC0
import Derived.Test.YtkanaakceokifaaBuH
namespace Go.Proofs.Ytkanaakceokifaa.Sy
open Go Go.RowKit
set_option linter.unusedVariables false
set_option maxRecDepth 100000
theorem pre_law (x : ct5.p.den) (h : InR ct5.p x) : ∀ q, ct5.pre = some q → q x := by
  intro q hq
  cases hq
  simp only [ct5, InR, Lit.wf, Bool.and_eq_true, decide_eq_true_eq] at h
  simp only [Sp.pre5]
  simp only [show IntKind.u8.min = 0 from rfl, show IntKind.u8.max = 255 from rfl] at h
  repeat' (first | exact trivial | apply And.intro)
  all_goals omega
theorem walk_BuildingGrows (a0_0 : Int) (a1_0 : Int) (a2_0 : Int) (a2_1 : Int) (a2_2 : Int) (w : World) (w0_0 : (Lit.int .u8 a0_0).wf = true) (w1_0 : (Lit.int .u8 a1_0).wf = true) (w2_0 : (Lit.int .u8 a2_0).wf = true) (w2_1 : (Lit.int .u8 a2_1).wf = true) (w2_2 : (Lit.int .u8 a2_2).wf = true) :
    Calls Try.prog 5 #[.int .u8 a0_0, .int .u8 a1_0, .agg #[.int .u8 a2_0, .int .u8 a2_1, .int .u8 a2_2]] w fun e w' => e = .returned (.bool true) ∧ Below w.heap.size w w' := by
  exact call_true ok5 (a0_0, a1_0, (a2_0, a2_1, a2_2)) w _ [.int .u8 a0_0, .int .u8 a1_0, .int .u8 a2_0, .int .u8 a2_1, .int .u8 a2_2] trivial (pre_law _ ⟨w0_0, w1_0, ⟨w2_0, w2_1, w2_2⟩⟩) ⟨_, rfl, ⟨_, rfl, ⟨[.int .u8 a2_0, .int .u8 a2_1, .int .u8 a2_2], _, rfl, rfl, rfl, rfl⟩⟩⟩ (tr_of ⟨rfl, rfl, rfl, rfl, rfl, trivial⟩) (Sp.law_grows _ ⟨w0_0, w1_0, ⟨w2_0, w2_1, w2_2⟩⟩)
end Go.Proofs.Ytkanaakceokifaa.Sy
