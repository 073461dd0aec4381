/- The sanity check of layer 12, and both steps at once. -/
import Derived.Test.YtkanaakceokifaaDoQ
namespace Go.Proofs.Ytkanaakceokifaa.Do
open Go.RowKit Go.Proofs.Ytkanaakceokifaa
set_option linter.unusedSimpArgs false
set_option linter.unusedVariables false

theorem step_at {ca cb cc cd ce cf dw ho ci a b c : Int} {d : Bool} {e' door : Int} {bl want : Bool} {v : Value} (hv : rv (stepD dw ho ⟨a, b, c, d, e'⟩ door bl want) = v) (w : World) :
    Calls Try.prog 24 #[.agg #[.int .i64 ca, .int .i64 cb, .int .i64 cc, .int .i64 cd, .int .i64 ce, .int .i64 cf, .int .i64 dw, .int .i64 ho, .int .i64 ci], .agg #[.int .i64 a, .int .i64 b, .int .i64 c, .bool d, .int .i64 e'], .int .i64 door, .bool bl, .bool want] w fun e w' => e = .returned v ∧ Below w.heap.size w w' := by
  rw [← hv]; exact step_any _ _ _ _ _ _ _ _ _ _ _ _ _ _ _ _ _ _

theorem isD_core (dw ho : Int) (s : D) (door : Int) (bl : Bool) (h : isD s = true) (h0 : s.st ≠ 0) : isD (coreD dw ho s door bl).1 = true := by
  obtain ⟨a, b, c, d, e'⟩ := s
  obtain ⟨a1, a2, b0, b1, s0, s1, y0, y1⟩ := isD_bd h h0
  have q1 : 0 ≤ mo b ∧ mo b ≤ 1000000 := by unfold mo; omega
  have q2 : 0 ≤ mo e' ∧ mo e' ≤ 1000000 := by unfold mo; omega
  have q3 : 0 ≤ max c 1 ∧ max c 1 ≤ 1000000 := by omega
  unfold coreD
  simp only
  repeat' split
  all_goals simp [isD, cnt, zero]
  all_goals omega

theorem isD_step (dw ho : Int) (s : D) (door : Int) (bl want : Bool) : isD (stepD dw ho s door bl want).1 = true := by
  unfold stepD
  split
  · rename_i h
    obtain ⟨h1, h0⟩ := h
    obtain ⟨a, b, c, d, e'⟩ := s
    obtain ⟨a1, a2, b0, b1, s0, s1, y0, y1⟩ := isD_bd h1 h0
    obtain ⟨q0, q1, q2⟩ := ctd_bd (a := a) (b := b) (d := d) (e' := e') s0 s1
    apply isD_core
    · rw [q2]; simp [isD, cnt]; omega
    · rw [q2]; exact h0
  · split <;> decide

/-- The step of the program and the one of the reference, with one result, which is a state. -/
theorem both (ca cb cc cd ce cf dw ho ci a b c : Int) (d : Bool) (e' door : Int) (bl want : Bool) : ∃ (q0 q1 q2 : Int) (q3 : Bool) (q4 cm : Int),
    (∀ w, Calls Try.prog 24 #[.agg #[.int .i64 ca, .int .i64 cb, .int .i64 cc, .int .i64 cd, .int .i64 ce, .int .i64 cf, .int .i64 dw, .int .i64 ho, .int .i64 ci], .agg #[.int .i64 a, .int .i64 b, .int .i64 c, .bool d, .int .i64 e'], .int .i64 door, .bool bl, .bool want] w fun e w' => e = .returned (.tuple #[.agg #[.int .i64 q0, .int .i64 q1, .int .i64 q2, .bool q3, .int .i64 q4], .int .i64 cm]) ∧ Below w.heap.size w w') ∧
    (∀ w, Calls Try.prog 25 #[.agg #[.int .i64 ca, .int .i64 cb, .int .i64 cc, .int .i64 cd, .int .i64 ce, .int .i64 cf, .int .i64 dw, .int .i64 ho, .int .i64 ci], .agg #[.int .i64 a, .int .i64 b, .int .i64 c, .bool d, .int .i64 e'], .int .i64 door, .bool bl, .bool want] w fun e w' => e = .returned (.tuple #[.agg #[.int .i64 q0, .int .i64 q1, .int .i64 q2, .bool q3, .int .i64 q4], .int .i64 cm]) ∧ Below w.heap.size w w') ∧ isD ⟨q0, q1, q2, q3, q4⟩ = true :=
  ⟨_, _, _, _, _, _, fun w => step_any ca cb cc cd ce cf dw ho ci a b c d e' door bl want w, fun w => rstep_any ca cb cc cd ce cf dw ho ci a b c d e' door bl want w, isD_step dw ho ⟨a, b, c, d, e'⟩ door bl want⟩

set_option maxHeartbeats 2000000 in
theorem sane_any (w : World) : Calls Try.prog 23 #[] w fun e w' => e = .returned (.bool true) ∧ Below w.heap.size w w' := by
  have s0 := @step_at 0 0 0 0 0 2 3 10 0 0 0 0 false 0 2 false true _ (show _ = Value.tuple #[.agg #[.int .i64 1, .int .i64 0, .int .i64 0, .bool false, .int .i64 0], .int .i64 3] by kernel_rfl)
  have s1 := @step_at 0 0 0 0 0 2 3 10 0 1 0 0 false 0 1 false false _ (show _ = Value.tuple #[.agg #[.int .i64 2, .int .i64 0, .int .i64 1, .bool false, .int .i64 0], .int .i64 0] by kernel_rfl)
  have s2 := @step_at 0 0 0 0 0 2 3 10 0 2 0 1 false 0 1 false false _ (show _ = Value.tuple #[.agg #[.int .i64 2, .int .i64 1, .int .i64 2, .bool false, .int .i64 0], .int .i64 0] by kernel_rfl)
  have s3 := @step_at 0 0 0 0 0 2 3 10 0 2 1 2 false 0 1 false false _ (show _ = Value.tuple #[.agg #[.int .i64 2, .int .i64 2, .int .i64 3, .bool false, .int .i64 0], .int .i64 0] by kernel_rfl)
  have s4 := @step_at 0 0 0 0 0 2 3 10 0 2 2 3 false 0 1 false false _ (show _ = Value.tuple #[.agg #[.int .i64 3, .int .i64 0, .int .i64 4, .bool false, .int .i64 0], .int .i64 4] by kernel_rfl)
  have s5 := @step_at 0 0 0 0 0 2 3 10 0 3 0 4 false 0 0 false false _ (show _ = Value.tuple #[.agg #[.int .i64 3, .int .i64 1, .int .i64 5, .bool false, .int .i64 0], .int .i64 4] by kernel_rfl)
  have s6 := @step_at 0 0 0 0 0 2 3 10 0 3 1 5 false 0 2 false false _ (show _ = Value.tuple #[.agg #[.int .i64 0, .int .i64 0, .int .i64 0, .bool false, .int .i64 0], .int .i64 0] by kernel_rfl)
  have i0 := isState_any 0 1 0 false 0
  rw [show isD ⟨0, 1, 0, false, 0⟩ = false by decide] at i0
  go_enter Try.func23, Try.ntmps23
  go_wp2_with (first | (go_at_call 24; (with_reducible refine (s0 _).mono ?_); rintro e w' ⟨rfl, hb⟩; obtain ⟨g, rfl⟩ := ext_of hb; clear hb) | (go_at_call 24; (with_reducible refine (s1 _).mono ?_); rintro e w' ⟨rfl, hb⟩; obtain ⟨g, rfl⟩ := ext_of hb; clear hb) | (go_at_call 24; (with_reducible refine (s2 _).mono ?_); rintro e w' ⟨rfl, hb⟩; obtain ⟨g, rfl⟩ := ext_of hb; clear hb) | (go_at_call 24; (with_reducible refine (s3 _).mono ?_); rintro e w' ⟨rfl, hb⟩; obtain ⟨g, rfl⟩ := ext_of hb; clear hb) | (go_at_call 24; (with_reducible refine (s4 _).mono ?_); rintro e w' ⟨rfl, hb⟩; obtain ⟨g, rfl⟩ := ext_of hb; clear hb) | (go_at_call 24; (with_reducible refine (s5 _).mono ?_); rintro e w' ⟨rfl, hb⟩; obtain ⟨g, rfl⟩ := ext_of hb; clear hb) | (go_at_call 24; (with_reducible refine (s6 _).mono ?_); rintro e w' ⟨rfl, hb⟩; obtain ⟨g, rfl⟩ := ext_of hb; clear hb))
  refine wp_loop_rounds 7 ?_
  iterate 6 (rw [rounds_succ]; go_wp2_with fail; (refine wp_region_tail2 10 (by kernel_rfl) (by kernel_rfl) (fun _ _ d _ _ h => by cases d <;> exact h) ?_; simp only [List.take_succ_cons, List.take_zero, List.drop_succ_cons, List.drop_zero]; (repeat (go_big_quiet_step ( first | (go_at_call 24; first | with_reducible exact call_ext2 (s0 _) | with_reducible exact call_ext (s0 _)) | (go_at_call 24; first | with_reducible exact call_ext2 (s1 _) | with_reducible exact call_ext (s1 _)) | (go_at_call 24; first | with_reducible exact call_ext2 (s2 _) | with_reducible exact call_ext (s2 _)) | (go_at_call 24; first | with_reducible exact call_ext2 (s3 _) | with_reducible exact call_ext (s3 _)) | (go_at_call 24; first | with_reducible exact call_ext2 (s4 _) | with_reducible exact call_ext (s4 _)) | (go_at_call 24; first | with_reducible exact call_ext2 (s5 _) | with_reducible exact call_ext (s5 _)) | (go_at_call 24; first | with_reducible exact call_ext2 (s6 _) | with_reducible exact call_ext (s6 _)) ))); (with_reducible refine wpQuiet_nil ?_); intro _ hw'; obtain ⟨gq, rfl⟩ := hw'; try simp only [ext_ext]); go_wp2)
  rw [rounds_succ]
  go_wp2_with ((go_at_call 31; (with_reducible refine (i0 _).mono ?_); rintro e w' ⟨rfl, hb⟩; obtain ⟨g, rfl⟩ := ext_of hb; clear hb))
  go_ret
  exact ⟨rfl, by (repeat' (first | with_reducible exact Below.refl _ _ | with_reducible assumption | with_reducible refine below_ext ?_ ?_ _ | with_reducible refine Below.alloc ?_ ?_ _ | with_reducible refine Below.drew ?_ | with_reducible exact Nat.le_refl _ | (simp only [World.size_alloc, World.size_setCell, World.size_drew, size_ext]; omega) | (simp; omega)))⟩
end Go.Proofs.Ytkanaakceokifaa.Do
