/- BuildingCalls: the call of the law returns true (written by own program mkwalk.py, out of the contract and the plain law). -/
import Derived.Test.YtkanaakceokifaaOpen
import Derived.Test.YtkanaakceokifaaTr
import Derived.Test.YtkanaakceokifaaB3
import Derived.Test.YtkanaakceokifaaBuG
namespace Go.Proofs.Ytkanaakceokifaa.Sy
open Go Go.RowKit
set_option linter.unusedVariables false
set_option maxRecDepth 100000
theorem tr_T33 {w : World} (cs : List Value) (h : E_T33 cs) : ∃ x : ty33.den, TR w (fun _ _ => False) ty33 x cs ∧ InR ty33 x := by
  obtain ⟨a0, a1, a2, a3, a4, a5, a6, a7, a8, rfl, w0, w1, w2, w3, w4, w5, w6, w7, w8⟩ := h
  exact ⟨(a0, a1, a2, a3, a4, a5, a6, a7, a8), tr_of ⟨rfl, rfl, rfl, rfl, rfl, rfl, rfl, rfl, rfl, trivial⟩, ⟨w0, w1, w2, w3, w4, w5, w6, w7, w8⟩⟩
theorem walk_BuildingCalls (a0_0 : Int) (a0_1 : Int) (a0_2 : Int) (a0_3 : Int) (a0_4 : Nat) (a0_5 : Nat) (a0_6 : Nat) (a0_7 : Value) (a1_0 : Int) (a2_0 : Int) (w : World) (w0_0 : (Lit.int .i64 a0_0).wf = true) (w0_1 : (Lit.int .i64 a0_1).wf = true) (w0_2 : (Lit.int .i64 a0_2).wf = true) (w0_3 : (Lit.int .i64 a0_3).wf = true) (w0_4 : (Lit.float .f64 a0_4).wf = true) (w0_5 : (Lit.float .f64 a0_5).wf = true) (w0_6 : (Lit.float .f64 a0_6).wf = true) (w0_7 : IsSlice w 9 E_T33 a0_7) (w1_0 : (Lit.int .i64 a1_0).wf = true) (w2_0 : (Lit.int .i64 a2_0).wf = true) :
    Calls Try.prog 9 #[.agg #[.int .i64 a0_0, .int .i64 a0_1, .int .i64 a0_2, .int .i64 a0_3, .float .f64 a0_4, .float .f64 a0_5, .float .f64 a0_6, a0_7], .int .i64 a1_0, .int .i64 a2_0] w fun e w' => e = .returned (.bool true) ∧ Below w.heap.size w w' := by
  obtain ⟨l0_7, t0_7, r0_7⟩ := slice_tr (e := ty33) rfl tr_T33 w0_7
  exact call_true ok9 ((a0_0, a0_1, a0_2, a0_3, a0_4, a0_5, a0_6, l0_7), a1_0, a2_0) w _ [.int .i64 a0_0, .int .i64 a0_1, .int .i64 a0_2, .int .i64 a0_3, .float .f64 a0_4, .float .f64 a0_5, .float .f64 a0_6, a0_7, .int .i64 a1_0, .int .i64 a2_0] trivial (fun q hq => by cases hq) ⟨[.int .i64 a0_0, .int .i64 a0_1, .int .i64 a0_2, .int .i64 a0_3, .float .f64 a0_4, .float .f64 a0_5, .float .f64 a0_6, a0_7], _, rfl, rfl, rfl, ⟨_, rfl, ⟨_, rfl, rfl⟩⟩⟩ (tr_of ⟨rfl, rfl, rfl, rfl, rfl, rfl, rfl, ⟨t0_7, trivial⟩, rfl, rfl, trivial⟩) (Sp.law_calls _ ⟨⟨w0_0, w0_1, w0_2, w0_3, w0_4, w0_5, w0_6, r0_7⟩, w1_0, w2_0⟩)
end Go.Proofs.Ytkanaakceokifaa.Sy
