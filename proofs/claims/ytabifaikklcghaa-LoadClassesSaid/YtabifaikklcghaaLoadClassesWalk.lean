/- LoadClasses: the call of the law returns true (written by own program mkwalk.py, out of the contract and the plain law). -/
import Derived.Test.YtabifaikklcghaaOpen
import Derived.Test.YtabifaikklcghaaTr
import Derived.Test.YtabifaikklcghaaK4
import Derived.Test.YtabifaikklcghaaLh
namespace Go.Proofs.Ytabifaikklcghaa.Sy
open Go Go.RowKit
set_option linter.unusedVariables false
set_option linter.unusedSimpArgs false
set_option maxRecDepth 100000
theorem tr_T72 {w : World} (cs : List Value) (h : E_T72 cs) : ∃ x : ty72.den, TR w (fun _ _ => False) ty72 x cs ∧ InR ty72 x := by
  obtain ⟨a0, a1, a2, a3, a4, a5, a6, a7, a8, rfl, w0, w1, w2, w3, w4, w5, w6, w7, w8⟩ := h
  exact ⟨(a0, a1, a2, a3, a4, a5, a6, a7, a8), tr_of ⟨rfl, rfl, rfl, rfl, rfl, rfl, rfl, rfl, rfl, trivial⟩, ⟨w0, w1, w2, w3, w4, w5, w6, w7, w8⟩⟩
theorem walk_LoadClasses (a0_0 : Int) (a0_1 : Int) (a0_2 : Int) (a0_3 : Int) (a0_4 : Nat) (a0_5 : Nat) (a0_6 : Nat) (a0_7 : Value) (a1_0 : Nat) (a2_0 : Nat) (a2_1 : Nat) (a2_2 : Nat) (w : World) (w0_0 : (Lit.int .i64 a0_0).wf = true) (w0_1 : (Lit.int .i64 a0_1).wf = true) (w0_2 : (Lit.int .i64 a0_2).wf = true) (w0_3 : (Lit.int .i64 a0_3).wf = true) (w0_4 : (Lit.float .f64 a0_4).wf = true) (w0_5 : (Lit.float .f64 a0_5).wf = true) (w0_6 : (Lit.float .f64 a0_6).wf = true) (w0_7 : IsSlice w 9 E_T72 a0_7) (w1_0 : (Lit.float .f64 a1_0).wf = true) (w2_0 : (Lit.float .f64 a2_0).wf = true) (w2_1 : (Lit.float .f64 a2_1).wf = true) (w2_2 : (Lit.float .f64 a2_2).wf = true) :
    Calls Try.prog 10 #[.agg #[.int .i64 a0_0, .int .i64 a0_1, .int .i64 a0_2, .int .i64 a0_3, .float .f64 a0_4, .float .f64 a0_5, .float .f64 a0_6, a0_7], .float .f64 a1_0, .agg #[.float .f64 a2_0, .float .f64 a2_1, .float .f64 a2_2]] w fun e w' => e = .returned (.bool true) ∧ Below w.heap.size w w' := by
  obtain ⟨l0_7, t0_7, r0_7⟩ := slice_tr (e := ty72) rfl tr_T72 w0_7
  exact call_true ok10 ((a0_0, a0_1, a0_2, a0_3, a0_4, a0_5, a0_6, l0_7), a1_0, (a2_0, a2_1, a2_2)) w _ [.int .i64 a0_0, .int .i64 a0_1, .int .i64 a0_2, .int .i64 a0_3, .float .f64 a0_4, .float .f64 a0_5, .float .f64 a0_6, a0_7, .float .f64 a1_0, .float .f64 a2_0, .float .f64 a2_1, .float .f64 a2_2] trivial (fun q hq => by cases hq) ⟨[.int .i64 a0_0, .int .i64 a0_1, .int .i64 a0_2, .int .i64 a0_3, .float .f64 a0_4, .float .f64 a0_5, .float .f64 a0_6, a0_7], _, rfl, rfl, rfl, ⟨_, rfl, ⟨[.float .f64 a2_0, .float .f64 a2_1, .float .f64 a2_2], _, rfl, rfl, rfl, rfl⟩⟩⟩ (tr_of ⟨rfl, rfl, rfl, rfl, rfl, rfl, rfl, ⟨t0_7, trivial⟩, rfl, rfl, rfl, rfl, trivial⟩) (Sp.law_classes _ ⟨⟨w0_0, w0_1, w0_2, w0_3, w0_4, w0_5, w0_6, r0_7⟩, w1_0, ⟨w2_0, w2_1, w2_2⟩⟩)
end Go.Proofs.Ytabifaikklcghaa.Sy
