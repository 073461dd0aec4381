/- MotionBlind and MotionSteps: the walks of the laws. -/
import Derived.Test.YtkfhampdellhoaaMoR
import Derived.OpenShut
namespace Go.Proofs.Ytkfhampdellhoaa.Mo
open Go.RowKit Go.Proofs.Ytkfhampdellhoaa
set_option linter.unusedSimpArgs false
set_option linter.unusedVariables false

theorem step_at {fl c t f fbF want : Int} {lv : Bool} {v : Value} (hv : stepV fl c t f fbF want lv = v) (dr : Int) (bl : Bool) (w : World) :
    Calls Try.prog 10 #[.int .i64 fl, .agg #[.int .i64 c, .int .i64 t, .int .i64 f], .agg #[.int .i64 fbF, .bool lv, .int .i64 dr, .bool bl], .int .i64 want] w fun e w' => e = .returned v ∧ Below w.heap.size w w' := by
  rw [← hv]; exact step_any _ _ _ _ _ _ _ _ _ _

set_option maxHeartbeats 400000 in
theorem sane_any (w : World) : Calls Try.prog 12 #[] w fun e w' => e = .returned (.bool true) ∧ Below w.heap.size w w' := by
  have s1 := @step_at 6 0 0 0 4 1 true _ (show _ = Value.tuple #[.agg #[.int .i64 1, .int .i64 0, .int .i64 4], .int .i64 1, .bool false] by kernel_rfl)
  have s2 := @step_at 6 1 0 4 5 1 true _ (show _ = Value.tuple #[.agg #[.int .i64 0, .int .i64 0, .int .i64 0], .int .i64 0, .bool true] by kernel_rfl)
  have s3 := isState_any 6 1 0 5
  rw [show isSt 6 1 0 5 = false by decide] at s3
  go_enter Try.func12, Try.ntmps12
  go_wp2_with (first | (go_at_call 10; (with_reducible refine (s1 _ _ _).mono ?_); rintro e w' ⟨rfl, hb⟩; obtain ⟨g, rfl⟩ := ext_of hb; clear hb) | (go_at_call 10; (with_reducible refine (s2 _ _ _).mono ?_); rintro e w' ⟨rfl, hb⟩; obtain ⟨g, rfl⟩ := ext_of hb; clear hb) | (go_at_call 21; (with_reducible refine (s3 _).mono ?_); rintro e w' ⟨rfl, hb⟩; obtain ⟨g, rfl⟩ := ext_of hb; clear hb))
  go_ret
  exact ⟨rfl, by (repeat' (first | with_reducible exact Below.refl _ _ | with_reducible assumption | with_reducible refine below_ext ?_ ?_ _ | with_reducible refine Below.alloc ?_ ?_ _ | with_reducible refine Below.drew ?_ | with_reducible exact Nat.le_refl _ | (simp only [World.size_alloc, World.size_setCell, World.size_drew, size_ext, add_add_n, add_drew_n]; omega) | (simp; omega)))⟩

/-- The start of MotionBlind: a step up or down from floor 4 of 9. -/
theorem start_at (u : Int) (h0 : 0 ≤ u) (h1 : u ≤ 1) (dr : Int) (bl : Bool) (w : World) :
    Calls Try.prog 10 #[.int .i64 9, .agg #[.int .i64 0, .int .i64 0, .int .i64 0], .agg #[.int .i64 4, .bool true, .int .i64 dr, .bool bl], .int .i64 (1 + u)] w fun e w' => e = .returned (.tuple #[.agg #[.int .i64 (1 + u), .int .i64 0, .int .i64 4], .int .i64 (1 + u), .bool false]) ∧ Below w.heap.size w w' := by
  have h : stepV 9 0 0 0 4 (1 + u) true = .tuple #[.agg #[.int .i64 (1 + u), .int .i64 0, .int .i64 4], .int .i64 (1 + u), .bool false] := by
    have hu : u = 0 ∨ u = 1 := by omega
    rcases hu with rfl | rfl
    · exact (show stepV 9 0 0 0 4 1 true = .tuple #[.agg #[.int .i64 1, .int .i64 0, .int .i64 4], .int .i64 1, .bool false] by kernel_rfl)
    · exact (show stepV 9 0 0 0 4 2 true = .tuple #[.agg #[.int .i64 2, .int .i64 0, .int .i64 4], .int .i64 2, .bool false] by kernel_rfl)
  exact step_at h dr bl w

theorem skip_at {c t t' : Int} (h : skipT c t = t') (f : Int) (w : World) :
    Calls Try.prog 14 #[.agg #[.int .i64 c, .int .i64 t, .int .i64 f]] w fun e w' => e = .returned (.agg #[.int .i64 c, .int .i64 t', .int .i64 f]) ∧ Below w.heap.size w w' := by
  rw [← h]; exact skip_any _ _ _ _

set_option maxHeartbeats 1000000 in
theorem blind_walk (x y z : Int) (w : World) (w0 : (Lit.int .u8 x).wf = true) (w1 : (Lit.int .u8 y).wf = true) (w2 : (Lit.int .u8 z).wf = true) :
    Calls Try.prog 6 #[.agg #[.int .u8 x, .int .u8 y, .int .u8 z]] w fun e w' => e = .returned (.bool true) ∧ Below w.heap.size w w' := by
  have bx := bounds_u8 w0
  have bY := bounds_u8 w1
  have bz := bounds_u8 w2
  clear w0 w1 w2
  have hs := start_at (y % 2) (by omega) (by omega)
  go_enter Try.func6, Try.ntmps6
  go_wp2_with ((go_at_call 10; (with_reducible refine (hs _ _ _).mono ?_); rintro e w' ⟨rfl, hb⟩; obtain ⟨g, rfl⟩ := ext_of hb; clear hb))
  go_loopw [7] (fun i wr => ∃ k : Int, 0 ≤ k ∧ k ≤ 40 ∧ k ≤ z % 40 ∧ i = .int .i64 (k + 1) ∧ ∃ g', wr = ext ((ext ((w.alloc (.cells #[.int .u8 x, .int .u8 y, .int .u8 z] 22)).alloc (.cells #[.int .i64 0, .int .i64 0, .int .i64 0, .int .i64 0, .int .i64 (1 + x % 20), .int .i64 0, .int .i64 0, .int .i64 0, .int .i64 0] 25)) g).alloc (.cells #[.int .i64 (1 + y % 2), .int .i64 k, .int .i64 4] 27)) g') (fun i _ => (41 - intOf i).toNat)
  case atStart => exact ⟨0, by omega, by omega, by omega, rfl, _, same_is_ext _⟩
  case round =>
    obtain ⟨k, hk0, hk, hk2, rfl, g', rfl⟩ := hrel
    have k1 := @skip_at (1 + y % 2) k (k + 1) (by unfold skipT; rw [if_pos (by omega)]) 4
    have k2 := @skip_at 0 0 0 (by decide) 0
    have hc : ((1 : Int) + y % 2 != 1 + y % 2) = false := by simp
    by_cases hlt : k < z % 40
    · go_wp2_with (first | (go_at_call 14; (with_reducible refine (k1 _).mono ?_); rintro e w' ⟨rfl, hb⟩; obtain ⟨g, rfl⟩ := ext_of hb; clear hb))
      (refine wp_region_ext (by kernel_rfl) (by kernel_rfl) ?_; (repeat (go_big_quiet_step ( (go_at_call 11; first | with_reducible exact call_ext2 (late_any _ _ _ _ _ _ _ _ _ _ _ _ _) | with_reducible exact call_ext (late_any _ _ _ _ _ _ _ _ _ _ _ _ _)) ))); (with_reducible refine wpQuiet_nil ?_); intro _ hw'; obtain ⟨gq, rfl⟩ := hw'; try simp only [ext_ext])
      go_wp2
      go_roundw
      case rel => exact ⟨k + 1, by omega, by omega, by omega, rfl, ext_of (by (repeat' (first | with_reducible exact Below.refl _ _ | with_reducible assumption | with_reducible refine below_ext ?_ ?_ _ | with_reducible refine Below.alloc ?_ ?_ _ | with_reducible refine Below.drew ?_ | with_reducible exact Nat.le_refl _ | (simp only [World.size_alloc, World.size_setCell, World.size_drew, size_ext, add_add_n, add_drew_n]; omega) | (simp; omega))))⟩
      case measure => simp [intOf]; omega
    · go_wp2_with (first | (go_at_call 14; (with_reducible refine (k2 _).mono ?_); rintro e w' ⟨rfl, hb⟩; obtain ⟨g, rfl⟩ := ext_of hb; clear hb) | (go_at_call 12; (with_reducible refine (sane_any _).mono ?_); rintro e w' ⟨rfl, hb⟩; obtain ⟨g, rfl⟩ := ext_of hb; clear hb))
      go_ret
      exact ⟨rfl, by (repeat' (first | with_reducible exact Below.refl _ _ | with_reducible assumption | with_reducible refine below_ext ?_ ?_ _ | with_reducible refine Below.alloc ?_ ?_ _ | with_reducible refine Below.drew ?_ | with_reducible exact Nat.le_refl _ | (simp only [World.size_alloc, World.size_setCell, World.size_drew, size_ext, add_add_n, add_drew_n]; omega) | (simp; omega)))⟩
end Go.Proofs.Ytkfhampdellhoaa.Mo
