/- RecordReads: for every input the call of the law returns true, and the arguments read behind the call as before. The walk stands in YtabifaikklcghaaRecordReadsWalk. -/
import Derived.JoinedCond
import Derived.Deep.Slices
import Derived.Test.YtabifaikklcghaaRows
import Derived.Test.YtabifaikklcghaaOpen
import Derived.Test.YtabifaikklcghaaRecordReadsWalk
namespace Go.Proofs.Ytabifaikklcghaa.recordReads
open Go.ChangeShapes Go.WideShapes Go.ChangeAt Go.RowKit
set_option linter.unusedVariables false

theorem own : ownKnob Try.prog.godebug = none := by kernel_rfl
theorem laidOut : laidOutB Try.prog = true := by kernel_rfl

theorem bulk_pos {H : Type} (d : DataW H) : 1 ≤ Rows.uptoBulk d := by
  cases d with
  | lit l => cases l <;> simp [Rows.uptoBulk]
  | _ => simp [Rows.uptoBulk]
theorem bulk_len {H : Type} : ∀ l : List (DataW H), l.length ≤ Rows.uptoBulkAll l
  | [] => Nat.zero_le _
  | d :: r => by
    have h1 := bulk_pos d
    have h2 := bulk_len r
    simp only [List.length_cons, Rows.uptoBulkAll]
    omega
theorem slice_bulk {H : Type} {enc : TypeId × Value → H} {P : Program} {w : World} {base : Nat} {spare : Nat → Bool} {held : Bool} {fuel : Nat} {t e : TypeId} {b : Option Addr} {l cp : Nat} {d : DataW H} {p : List MemPlace} (ht : P.underlying t = some (.slice e)) (h : DataW.trod enc P w base spare held fuel t [.slice b l cp] = some (d, p)) : l ≤ Rows.uptoBulk d := by
  rcases Deep.open_slice ht h with ⟨h0, h1⟩ | ⟨a, len, cap, m, n, D, Pl, h0, _, _, _, _, h1, _⟩
  · simp only [List.cons.injEq, Value.slice.injEq, and_true] at h0
    omega
  · simp only [List.cons.injEq, Value.slice.injEq, and_true] at h0
    simp only [Prod.mk.injEq] at h1
    rw [h1.1]
    have := bulk_len ((List.range len).map D)
    simp only [List.length_map, List.length_range] at this
    simp only [Rows.uptoBulk]
    omega
set_option maxRecDepth 100000 in
theorem lifted (os : Os) (started : os.Started) (H : Type) (enc : TypeId × Value → H) (F0 : Stop.Interp) :
    ReturnsInHanded {} Try.checked os 9 .any ((Rows.OpenSpec.upto Rows.recordReadsSpec).pre6 enc Try.prog Try.f9 Rows.recordReadsUptoRow.domain false) (((Rows.OpenSpec.upto Rows.recordReadsSpec).at F0).post enc Try.prog Try.f9 false true false false) := by
  refine returnsInHanded_of_cond (C := Try.checked) (s := Rows.OpenSpec.upto Rows.recordReadsSpec) (k := Rows.uptoSmall) rfl own started (by kernel_rfl) Try.func9
    (OpenSpec.witness (enc := enc) (C := Try.checked) (s := Rows.OpenSpec.upto Rows.recordReadsSpec) (k := Rows.uptoSmall) rfl false ⟨#[], #[.int .u8 0, .slice none 0 0, .slice none 0 0], []⟩ 8 (by kernel_rfl) (by kernel_rfl) (by kernel_rfl) (x := ([.lit (.int .u8 0), .nil, .nil], [], [])) (by kernel_rfl) rfl (by kernel_rfl)) ?_
  intro W base args ds gs before hval0 hW hcnd hsmall _
  have hval : ∀ (j : Nat) t v, Try.f9.params[j]? = some t → args[j]? = some v → Value.okWide Try.prog W .any base t v := hval0
  have hW' := hW
  obtain ⟨p, q, hA0, hV, rfl, hfz, hnd⟩ := hW
  have hA : DataW.TrodAll enc Try.prog W 0 (fun _ => true) true Try.f9.params.toList args.toList ds p := hA0
  rw [Try.params9] at hA hval
  obtain ⟨v0, vs0, d0, ds0, p0, q0, hargs, rfl, rfl, h0, r0⟩ := trodAll_cons hA
  obtain ⟨v1, vs1, d1, ds1, p1, q1, rfl, rfl, rfl, h1, r1⟩ := trodAll_cons r0
  obtain ⟨v2, vs2, d2, ds2, p2, q2, rfl, rfl, rfl, h2, r2⟩ := trodAll_cons r1
  obtain ⟨rfl, rfl, rfl⟩ := trodAll_nil r2
  obtain rfl : args = #[v0, v1, v2] := by cases args; simp_all
  obtain ⟨rfl, rfl⟩ := trodVars_none hV
  have k0 := h0
  have lt0 : ∀ x ∈ p0, x.block < W.heap.size := by obtain ⟨m, hm⟩ := k0; exact DataW.trod_lt m _ _ _ hm
  obtain ⟨b0, rfl⟩ := okWide_int Try.underlying5 (hval 0 5 v0 rfl rfl)
  obtain ⟨fuel0, hf0⟩ := h0
  obtain ⟨a0_0, e0, w0_0⟩ := open_T5 hf0
  simp only [Value.cells, List.cons.injEq, and_true, Value.int.injEq, true_and] at e0
  subst e0
  have k1 := h1
  have lt1 : ∀ x ∈ p1, x.block < W.heap.size := by obtain ⟨m, hm⟩ := k1; exact DataW.trod_lt m _ _ _ hm
  obtain ⟨b1, l1, cp1, rfl⟩ := okWide_slice Try.underlying35 (hval 1 35 v1 rfl rfl)
  obtain ⟨fuel1, hf1⟩ := h1
  obtain ⟨a1_0, e1, w1_0⟩ := open_T35 hf1
  simp only [Value.cells, List.cons.injEq, and_true] at e1
  have u1 := slice_bulk Try.underlying35 hf1
  subst e1
  have k2 := h2
  have lt2 : ∀ x ∈ p2, x.block < W.heap.size := by obtain ⟨m, hm⟩ := k2; exact DataW.trod_lt m _ _ _ hm
  obtain ⟨b2, l2, cp2, rfl⟩ := okWide_slice Try.underlying35 (hval 2 35 v2 rfl rfl)
  obtain ⟨fuel2, hf2⟩ := h2
  obtain ⟨a2_0, e2, w2_0⟩ := open_T35 hf2
  simp only [Value.cells, List.cons.injEq, and_true] at e2
  have u2 := slice_bulk Try.underlying35 hf2
  subst e2
  have hsm : Rows.uptoBulkAll ([d0, d1, d2] ++ ([] : List (DataW H))) ≤ 1048576 := of_decide_eq_true hsmall
  simp only [List.cons_append, List.nil_append, Rows.uptoBulkAll] at hsm
  clear hA0 hval0
  refine (Sy.walk_RecordReads b0 (.slice b1 l1 cp1) (.slice b2 l2 cp2) W w0_0 w1_0 w2_0 (show Sy.vLen (.slice b1 l1 cp1) ≤ 1048576 from by simp only [Sy.vLen]; omega) (show Sy.vLen (.slice b2 l2 cp2) ≤ 1048576 from by simp only [Sy.vLen]; omega)).mono fun e W' ⟨he, bel⟩ => ?_
  subst he
  exact ⟨_, rfl, _, _, _, [], _, [], hW', trodAll_mk1 (shut_bool Try.underlying4 _), (trodAll_cons_mk (Below.trod laidOut (by kernel_rfl) (of_decide_eq_true (by kernel_rfl)) k0 bel lt0) (trodAll_cons_mk (Below.trod laidOut (by kernel_rfl) (of_decide_eq_true (by kernel_rfl)) k1 bel lt1) (trodAll_cons_mk (Below.trod laidOut (by kernel_rfl) (of_decide_eq_true (by kernel_rfl)) k2 bel lt2) trodAll_mk0))), rfl, bel.frame _, fun h => by cases h⟩

theorem over : Rows.recordReadsUptoRow.holds Try.pinned (Rows.OpenSpec.upto Rows.recordReadsSpec) :=
  OpenClaim.holds_of_cond 9 Try.f9 rfl rfl rfl rfl rfl rfl rfl ⟨rfl, rfl, rfl, rfl, rfl⟩ rfl rfl rfl rfl rfl (by kernel_rfl) Try.func9 (by kernel_rfl)
    (of_decide_eq_true (by kernel_rfl)) (by unfold Func.isWrapper; first | (rw [if_pos (by decide +kernel)]; kernel_rfl) | (rw [if_neg (by decide +kernel)]; exact ⟨rfl, rfl⟩))
    (fun os started H enc _ F0 => lifted os started H enc F0)

theorem proved : Rows.RecordReadsUptoSaid := over
#print axioms proved
end Go.Proofs.Ytabifaikklcghaa.recordReads
