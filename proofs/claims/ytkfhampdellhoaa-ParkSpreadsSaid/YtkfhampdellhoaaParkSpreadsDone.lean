/- ParkSpreads: for every input the call of the law returns true, and the arguments read behind the call as before. The walk stands in YtkfhampdellhoaaParkSpreadsWalk. -/
import Derived.Test.YtkfhampdellhoaaRows
import Derived.Test.YtkfhampdellhoaaOpen
import Derived.Test.YtkfhampdellhoaaParkSpreadsWalk
namespace Go.Proofs.Ytkfhampdellhoaa.parkSpreads
open Go.ChangeShapes Go.WideShapes Go.ChangeAt Go.RowKit
set_option linter.unusedVariables false

theorem own : ownKnob Try.prog.godebug = none := by kernel_rfl
theorem laidOut : laidOutB Try.prog = true := by kernel_rfl

set_option maxRecDepth 100000 in
theorem lifted (os : Os) (started : os.Started) (H : Type) (enc : TypeId × Value → H) :
    ReturnsInHanded {} Try.checked os 9 .any (Rows.parkSpreadsSpec.pre6 enc Try.prog Try.f9 Rows.parkSpreadsRow.domain false) (Rows.parkSpreadsSpec.post enc Try.prog Try.f9 false true false false) := by
  refine returnsInHanded_of_change (C := Try.checked) own started (by kernel_rfl) Try.func9
    (ChangeSpec.witness6 (enc := enc) (C := Try.checked) false ⟨#[], #[.int .u8 0, .agg #[.int .i64 0, .int .i64 0, .int .i64 0, .int .i64 0, .float .f64 0, .float .f64 0, .float .f64 0, .slice none 0 0]], []⟩ 8 (by kernel_rfl) (by kernel_rfl) (by kernel_rfl) (by kernel_rfl)) ?_
  intro W base args ds gs before hval0 hW hcnd _
  have hval : ∀ (j : Nat) t v, Try.f9.params[j]? = some t → args[j]? = some v → Value.okWide Try.prog W .any base t v := hval0
  have hW' := hW
  obtain ⟨p, q, hA0, hV, rfl, hfz, hnd⟩ := hW
  have hA : DataW.TrodAll enc Try.prog W 0 (fun _ => true) true Try.f9.params.toList args.toList ds p := hA0
  rw [Try.params9] at hA hval
  obtain ⟨v0, vs0, d0, ds0, p0, q0, hargs, rfl, rfl, h0, r0⟩ := trodAll_cons hA
  obtain ⟨v1, vs1, d1, ds1, p1, q1, rfl, rfl, rfl, h1, r1⟩ := trodAll_cons r0
  obtain ⟨rfl, rfl, rfl⟩ := trodAll_nil r1
  obtain rfl : args = #[v0, v1] := by cases args; simp_all
  obtain ⟨rfl, rfl⟩ := trodVars_none hV
  have k0 := h0
  have lt0 : ∀ x ∈ p0, x.block < W.heap.size := by obtain ⟨m, hm⟩ := k0; exact DataW.trod_lt m _ _ _ hm
  obtain ⟨b0, rfl⟩ := okWide_int Try.underlying5 (hval 0 5 v0 rfl rfl)
  obtain ⟨fuel0, hf0⟩ := h0
  obtain ⟨a0_0, e0, w0_0⟩ := open_T5 hf0
  simp only [Value.cells, List.cons.injEq, and_true, Value.int.injEq, true_and] at e0
  subst e0
  have k1 := h1
  have lt1 : ∀ x ∈ p1, x.block < W.heap.size := by obtain ⟨m, hm⟩ := k1; exact DataW.trod_lt m _ _ _ hm
  obtain ⟨c1, rfl, hsz1⟩ := okWide_struct Try.underlying46 (hval 1 46 v1 rfl rfl)
  obtain ⟨fuel1, hf1⟩ := h1
  obtain ⟨a1_0, a1_1, a1_2, a1_3, a1_4, a1_5, a1_6, a1_7, e1, w1_0, w1_1, w1_2, w1_3, w1_4, w1_5, w1_6, w1_7⟩ := open_T46 hf1
  have e1' : c1 = #[.int .i64 a1_0, .int .i64 a1_1, .int .i64 a1_2, .int .i64 a1_3, .float .f64 a1_4, .float .f64 a1_5, .float .f64 a1_6, a1_7] := by rw [← Array.toList_inj]; exact e1
  subst e1'
  clear hA0 hval0
  refine (Sy.walk_ParkSpreads b0 a1_0 a1_1 a1_2 a1_3 a1_4 a1_5 a1_6 a1_7 W w0_0 w1_0 w1_1 w1_2 w1_3 w1_4 w1_5 w1_6 w1_7).mono fun e W' ⟨he, bel⟩ => ?_
  subst he
  exact ⟨_, rfl, _, _, _, [], _, [], hW', trodAll_mk1 (shut_bool Try.underlying4 _), (trodAll_cons_mk (Below.trod laidOut (by kernel_rfl) (of_decide_eq_true (by kernel_rfl)) k0 bel lt0) (trodAll_cons_mk (Below.trod laidOut (by kernel_rfl) (of_decide_eq_true (by kernel_rfl)) k1 bel lt1) trodAll_mk0)), rfl, bel.frame _, fun h => by cases h⟩

theorem over : Rows.parkSpreadsRow.holds Try.pinned (OpenSpec.ofChange Rows.parkSpreadsSpec) :=
  OpenClaim.holds_of_wide 9 Try.f9 rfl rfl rfl rfl rfl rfl rfl ⟨rfl, rfl, rfl, rfl, rfl⟩ rfl rfl rfl rfl rfl (by kernel_rfl) Try.func9 (by kernel_rfl)
    (of_decide_eq_true (by kernel_rfl)) (by unfold Func.isWrapper; first | (rw [if_pos (by decide +kernel)]; kernel_rfl) | (rw [if_neg (by decide +kernel)]; exact ⟨rfl, rfl⟩))
    (fun os started H enc _ => lifted os started H enc)

theorem proved : Rows.ParkSpreadsSaid := over
#print axioms proved
end Go.Proofs.Ytkfhampdellhoaa.parkSpreads
