/- ParkSpreads: the call of the law returns true (written by own program mkwalk.py, out of the contract and the plain law). -/
import Derived.Test.YtkfhampdellhoaaOpen
import Derived.Test.YtkfhampdellhoaaTr
import Derived.Test.YtkfhampdellhoaaV0
import Derived.Test.YtkfhampdellhoaaPaS
namespace Go.Proofs.Ytkfhampdellhoaa.Sy
open Go Go.RowKit
set_option linter.unusedVariables false
set_option maxRecDepth 100000
theorem tr_T25 {w : World} (cs : List Value) (h : E_T25 cs) : ∃ x : ty25.den, TR w (fun _ _ => False) ty25 x cs ∧ InR ty25 x := by
  obtain ⟨a0, a1, a2, a3, a4, a5, a6, a7, a8, rfl, w0, w1, w2, w3, w4, w5, w6, w7, w8⟩ := h
  exact ⟨(a0, a1, a2, a3, a4, a5, a6, a7, a8), tr_of ⟨rfl, rfl, rfl, rfl, rfl, rfl, rfl, rfl, rfl, trivial⟩, ⟨w0, w1, w2, w3, w4, w5, w6, w7, w8⟩⟩
theorem pre_law (x : ct9.p.den) (h : InR ct9.p x) : ∀ q, ct9.pre = some q → q x := by
  intro q hq
  cases hq
  simp only [ct9, InR, Lit.wf, Bool.and_eq_true, decide_eq_true_eq] at h
  simp only [Sp.pre9]
  simp only [show IntKind.u8.min = 0 from rfl, show IntKind.u8.max = 255 from rfl] at h
  repeat' (first | exact trivial | apply And.intro)
  all_goals omega
theorem walk_ParkSpreads (a0_0 : Int) (a1_0 : Int) (a1_1 : Int) (a1_2 : Int) (a1_3 : Int) (a1_4 : Nat) (a1_5 : Nat) (a1_6 : Nat) (a1_7 : Value) (w : World) (w0_0 : (Lit.int .u8 a0_0).wf = true) (w1_0 : (Lit.int .i64 a1_0).wf = true) (w1_1 : (Lit.int .i64 a1_1).wf = true) (w1_2 : (Lit.int .i64 a1_2).wf = true) (w1_3 : (Lit.int .i64 a1_3).wf = true) (w1_4 : (Lit.float .f64 a1_4).wf = true) (w1_5 : (Lit.float .f64 a1_5).wf = true) (w1_6 : (Lit.float .f64 a1_6).wf = true) (w1_7 : IsSlice w 9 E_T25 a1_7) :
    Calls Try.prog 9 #[.int .u8 a0_0, .agg #[.int .i64 a1_0, .int .i64 a1_1, .int .i64 a1_2, .int .i64 a1_3, .float .f64 a1_4, .float .f64 a1_5, .float .f64 a1_6, a1_7]] w fun e w' => e = .returned (.bool true) ∧ Below w.heap.size w w' := by
  obtain ⟨l1_7, t1_7, r1_7⟩ := slice_tr (e := ty25) rfl tr_T25 w1_7
  exact call_true ok9 (a0_0, (a1_0, a1_1, a1_2, a1_3, a1_4, a1_5, a1_6, l1_7)) w _ [.int .u8 a0_0, .int .i64 a1_0, .int .i64 a1_1, .int .i64 a1_2, .int .i64 a1_3, .float .f64 a1_4, .float .f64 a1_5, .float .f64 a1_6, a1_7] trivial (pre_law _ ⟨w0_0, ⟨w1_0, w1_1, w1_2, w1_3, w1_4, w1_5, w1_6, r1_7⟩⟩) ⟨_, rfl, ⟨[.int .i64 a1_0, .int .i64 a1_1, .int .i64 a1_2, .int .i64 a1_3, .float .f64 a1_4, .float .f64 a1_5, .float .f64 a1_6, a1_7], _, rfl, rfl, rfl, rfl⟩⟩ (tr_of ⟨rfl, rfl, rfl, rfl, rfl, rfl, rfl, rfl, ⟨t1_7, trivial⟩, trivial⟩) (Sp.law_spreads _ ⟨w0_0, ⟨w1_0, w1_1, w1_2, w1_3, w1_4, w1_5, w1_6, r1_7⟩⟩)
end Go.Proofs.Ytkfhampdellhoaa.Sy
