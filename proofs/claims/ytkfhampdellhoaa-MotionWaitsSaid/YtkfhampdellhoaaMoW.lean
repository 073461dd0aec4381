/- MotionWaits: the walk of the law. -/
import Derived.Test.YtkfhampdellhoaaMo
namespace Go.Proofs.Ytkfhampdellhoaa.MoW
open Go.RowKit Go.Proofs.Ytkfhampdellhoaa Go.Proofs.Ytkfhampdellhoaa.Mo
set_option linter.unusedSimpArgs false
set_option linter.unusedVariables false
abbrev mv (c t f : Int) : Value := .agg #[.int .i64 c, .int .i64 t, .int .i64 f]
abbrev fv (f : Int) (lv : Bool) (dr : Int) (bl : Bool) : Value := .agg #[.int .i64 f, .bool lv, .int .i64 dr, .bool bl]
abbrev carv (a b c d e f g h i : Int) : Value := .agg #[.int .i64 a, .int .i64 b, .int .i64 c, .int .i64 d, .int .i64 e, .int .i64 f, .int .i64 g, .int .i64 h, .int .i64 i]

theorem step_at {fl c t f fbF want : Int} {lv : Bool} {v : Value} (hv : stepV fl c t f fbF want lv = v) (dr : Int) (bl : Bool) (w : World) :
    Calls Try.prog 10 #[.int .i64 fl, .agg #[.int .i64 c, .int .i64 t, .int .i64 f], .agg #[.int .i64 fbF, .bool lv, .int .i64 dr, .bool bl], .int .i64 want] w fun e w' => e = .returned v ∧ Below w.heap.size w w' := by
  rw [← hv]; exact step_any _ _ _ _ _ _ _ _ _ _

theorem late_any (a b c d st f g h i c' t f' : Int) (w : World) :
    Calls Try.prog 11 #[.agg #[.int .i64 a, .int .i64 b, .int .i64 c, .int .i64 d, .int .i64 st, .int .i64 f, .int .i64 g, .int .i64 h, .int .i64 i], .agg #[.int .i64 c', .int .i64 t, .int .i64 f']] w fun e w' => e = .returned (.bool (decide (st < t))) ∧ Below w.heap.size w w' := by
  go_enter Try.func11, Try.ntmps11
  go_wp2
  go_ret
  exact ⟨rfl, by (repeat' (first | with_reducible exact Below.refl _ _ | with_reducible assumption | with_reducible refine below_ext ?_ ?_ _ | with_reducible refine Below.alloc ?_ ?_ _ | with_reducible refine Below.drew ?_ | with_reducible exact Nat.le_refl _ | (simp only [World.size_alloc, World.size_setCell, World.size_drew, size_ext]; omega) | (simp; omega)))⟩

set_option maxHeartbeats 400000 in
theorem sane_any (w : World) : Calls Try.prog 12 #[] w fun e w' => e = .returned (.bool true) ∧ Below w.heap.size w w' := by
  have s1 := @step_at 6 0 0 0 4 1 true _ (show _ = Value.tuple #[.agg #[.int .i64 1, .int .i64 0, .int .i64 4], .int .i64 1, .bool false] by kernel_rfl)
  have s2 := @step_at 6 1 0 4 5 1 true _ (show _ = Value.tuple #[.agg #[.int .i64 0, .int .i64 0, .int .i64 0], .int .i64 0, .bool true] by kernel_rfl)
  have s3 := isState_any 6 1 0 5
  rw [show isSt 6 1 0 5 = false by decide] at s3
  go_enter Try.func12, Try.ntmps12
  go_wp2_with (first | (go_at_call 10; (with_reducible refine (s1 _ _ _).mono ?_); rintro e w' ⟨rfl, hb⟩; obtain ⟨g, rfl⟩ := ext_of hb; clear hb) | (go_at_call 10; (with_reducible refine (s2 _ _ _).mono ?_); rintro e w' ⟨rfl, hb⟩; obtain ⟨g, rfl⟩ := ext_of hb; clear hb) | (go_at_call 21; (with_reducible refine (s3 _).mono ?_); rintro e w' ⟨rfl, hb⟩; obtain ⟨g, rfl⟩ := ext_of hb; clear hb))
  go_ret
  exact ⟨rfl, by (repeat' (first | with_reducible exact Below.refl _ _ | with_reducible assumption | with_reducible refine below_ext ?_ ?_ _ | with_reducible refine Below.alloc ?_ ?_ _ | with_reducible refine Below.drew ?_ | with_reducible exact Nat.le_refl _ | (simp only [World.size_alloc, World.size_setCell, World.size_drew, size_ext]; omega) | (simp; omega)))⟩

set_option maxHeartbeats 1000000 in
theorem walk (n st want : Int) (w : World) (w0 : (Lit.int .u8 n).wf = true) (w1 : (Lit.int .u8 st).wf = true) (w2 : (Lit.int .i64 want).wf = true) :
    Calls Try.prog 4 #[.int .u8 n, .int .u8 st, .int .i64 want] w fun e w' => e = .returned (.bool true) ∧ Below w.heap.size w w' := by
  have bn := bounds_u8 w0
  have bs := bounds_u8 w1
  go_enter Try.func4, Try.ntmps4
  go_wp2
  go_loopw [9] (fun i wr => ∃ k : Int, 0 ≤ k ∧ k ≤ 40 ∧ k ≤ n % 40 ∧ i = .int .i64 (k + 1) ∧ ∃ g, wr = ext ((w.alloc (.cells #[.int .i64 0, .int .i64 0, .int .i64 0, .int .i64 0, .int .i64 (1 + st % 20), .int .i64 0, .int .i64 0, .int .i64 0, .int .i64 0] 25)).alloc (.cells #[.int .i64 0, .int .i64 k, .int .i64 0] 27)) g) (fun i _ => (41 - intOf i).toNat)
  case atStart => exact ⟨0, by omega, by omega, by omega, rfl, ⟨_, same_is_ext _⟩⟩
  case round =>
    obtain ⟨k, hk0, hk, hk2, rfl, g, rfl⟩ := hrel
    have s1 : ∀ W, _ := @step_at 5 0 k 0 2 want false (Value.tuple #[.agg #[.int .i64 0, .int .i64 (k + 1), .int .i64 0], .int .i64 0, .bool false]) (by rw [stepV, if_pos (by simp [isSt]; omega), if_neg (by simp [okB]), if_pos (by simp), show min (k + 1) 1000000 = k + 1 by omega]) 0 false
    have s2 : ∀ W, _ := @step_at 5 0 k 0 2 0 true (Value.tuple #[.agg #[.int .i64 0, .int .i64 0, .int .i64 0], .int .i64 0, .bool false]) (by rw [stepV, if_pos (by simp [isSt]; omega), if_neg (by simp [okB]), if_neg (by simp [okB]), if_neg (by simp [okB])]) 0 false
    by_cases hlt : k < n % 40
    · go_wp2_with (first | (go_at_call 10; (with_reducible refine (s1 _).mono ?_); rintro e w' ⟨rfl, hb⟩; obtain ⟨g, rfl⟩ := ext_of hb; clear hb))
      (refine wp_region_ext (by kernel_rfl) (by kernel_rfl) ?_; (repeat (go_big_quiet_step ( (go_at_call 11; with_reducible exact call_ext (late_any _ _ _ _ _ _ _ _ _ _ _ _ _)) ))); (with_reducible refine wpQuiet_nil ?_); intro _ hw'; obtain ⟨gq, rfl⟩ := hw')
      go_wp2
      go_roundw
      case rel => exact ⟨k + 1, by omega, by omega, by omega, rfl, ext_of (by (repeat' (first | with_reducible exact Below.refl _ _ | with_reducible assumption | with_reducible refine below_ext ?_ ?_ _ | with_reducible refine Below.alloc ?_ ?_ _ | with_reducible refine Below.drew ?_ | with_reducible exact Nat.le_refl _ | (simp only [World.size_alloc, World.size_setCell, World.size_drew, size_ext]; omega) | (simp; omega))))⟩
      case measure => simp [intOf]; omega
    · go_wp2_with (first | (go_at_call 10; (with_reducible refine (s2 _).mono ?_); rintro e w' ⟨rfl, hb⟩; obtain ⟨g, rfl⟩ := ext_of hb; clear hb) | (go_at_call 12; (with_reducible refine (sane_any _).mono ?_); rintro e w' ⟨rfl, hb⟩; obtain ⟨g, rfl⟩ := ext_of hb; clear hb))
      go_ret
      exact ⟨rfl, by (repeat' (first | with_reducible exact Below.refl _ _ | with_reducible assumption | with_reducible refine below_ext ?_ ?_ _ | with_reducible refine Below.alloc ?_ ?_ _ | with_reducible refine Below.drew ?_ | with_reducible exact Nat.le_refl _ | (simp only [World.size_alloc, World.size_setCell, World.size_drew, size_ext]; omega) | (simp; omega)))⟩
end Go.Proofs.Ytkfhampdellhoaa.MoW
