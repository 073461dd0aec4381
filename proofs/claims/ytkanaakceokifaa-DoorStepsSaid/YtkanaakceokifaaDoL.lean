/- DoorSteps: the walk of the law. -/
import Derived.Test.YtkanaakceokifaaDoA
import Derived.OpenShut
namespace Go.Proofs.Ytkanaakceokifaa.Do
open Go.RowKit Go.Proofs.Ytkanaakceokifaa
set_option linter.unusedSimpArgs false
set_option linter.unusedVariables false

set_option maxRecDepth 100000 in
set_option maxHeartbeats 8000000 in
theorem steps_walk (ca cb cc cd ce cf cg ch ci a b c : Int) (d : Bool) (e' t0 : Int) (t1 t2 : Bool) (w : World) :
    Calls Try.prog 10 #[.agg #[.int .i64 ca, .int .i64 cb, .int .i64 cc, .int .i64 cd, .int .i64 ce, .int .i64 cf, .int .i64 cg, .int .i64 ch, .int .i64 ci], .agg #[.int .i64 a, .int .i64 b, .int .i64 c, .bool d, .int .i64 e'], .agg #[.int .i64 t0, .bool t1, .bool t2]] w fun e w' => e = .returned (.bool true) ∧ Below w.heap.size w w' := by
  go_enter Try.func10, Try.ntmps10
  go_wp2
  go_loopw [7] (fun i wr => ∃ s : Int, -1 ≤ s ∧ s ≤ 5 ∧ i = .int .i64 s ∧ ∃ g, wr = ext (((w.alloc (.cells #[.int .i64 ca, .int .i64 cb, .int .i64 cc, .int .i64 cd, .int .i64 ce, .int .i64 cf, .int .i64 cg, .int .i64 ch, .int .i64 ci] 33)).alloc (.cells #[.int .i64 a, .int .i64 b, .int .i64 c, .bool d, .int .i64 e'] 42)).alloc (.cells #[.int .i64 t0, .bool t1, .bool t2] 46)) g) (fun i _ => (5 - intOf i).toNat)
  case atStart => exact ⟨-1, by omega, by omega, rfl, _, same_is_ext _⟩
  case round =>
    obtain ⟨s, hs0, hs1, rfl, g, rfl⟩ := hrel
    by_cases hlt : s < 5
    · go_wp2
      go_loopw [8] (fun i wr => ∃ k : Int, 0 ≤ k ∧ k ≤ 3 ∧ i = .int .i64 k ∧ ∃ g, wr = ext (((w.alloc (.cells #[.int .i64 ca, .int .i64 cb, .int .i64 cc, .int .i64 cd, .int .i64 ce, .int .i64 cf, .int .i64 cg, .int .i64 ch, .int .i64 ci] 33)).alloc (.cells #[.int .i64 a, .int .i64 b, .int .i64 c, .bool d, .int .i64 e'] 42)).alloc (.cells #[.int .i64 t0, .bool t1, .bool t2] 46)) g) (fun i _ => (3 - intOf i).toNat)
      case atStart => exact ⟨0, by omega, by omega, rfl, _, rfl⟩
      case round =>
        obtain ⟨k, hk0, hk1, rfl, g1, rfl⟩ := hrel
        by_cases hlk : k < 3
        · by_cases hsn : 0 ≤ s
          · obtain ⟨q0, q1, q2, q3, q4, cm, K1, K2, hq⟩ := both ca cb cc cd ce cf cg ch ci s (bits .and .i64 b 255) (bits .and .i64 c 127) d (bits .and .i64 e' 15) k t1 t2
            have i1 := risState_any q0 q1 q2 q3 q4
            rw [hq] at i1
            clear hq
            go_wp2
            go_region
            all_goals
              go_wp2
              go_region
              all_goals
                go_wp2_with (first | (go_at_call 24; refine (K1 _).mono ?_; rintro e w' ⟨rfl, hb⟩; obtain ⟨g, rfl⟩ := ext_of hb; clear hb) | (go_at_call 25; refine (K2 _).mono ?_; rintro e w' ⟨rfl, hb⟩; obtain ⟨g, rfl⟩ := ext_of hb; clear hb))
                (refine wp_region_ext (by kernel_rfl) (by kernel_rfl) ?_; (repeat (go_big_quiet_step ( first | (go_at_call 32; first | with_reducible exact call_ext2 (i1 _) | with_reducible exact call_ext (i1 _)) | (go_at_call 31; first | exact call_ext2 (isState_any _ _ _ _ _ _) | exact call_ext (isState_any _ _ _ _ _ _)) | (go_at_call 32; first | exact call_ext2 (risState_any _ _ _ _ _ _) | exact call_ext (risState_any _ _ _ _ _ _)) | (go_at_call 33; first | exact call_ext2 (skip_any _ _ _ _ _ _) | exact call_ext (skip_any _ _ _ _ _ _)) | (go_at_call 34; first | exact call_ext2 (rskip_any _ _ _ _ _ _) | exact call_ext (rskip_any _ _ _ _ _ _)) | (go_at_call 26; first | exact call_ext2 (late_any _ _ _ _ _ _ _ _ _ _ _ _ _ _ _) | exact call_ext (late_any _ _ _ _ _ _ _ _ _ _ _ _ _ _ _)) | (go_at_call 35; first | exact call_ext2 (rlate_any _ _ _ _ _ _ _ _ _ _ _ _ _ _ _) | exact call_ext (rlate_any _ _ _ _ _ _ _ _ _ _ _ _ _ _ _)) ))); (with_reducible refine wpQuiet_nil ?_); intro _ hw'; obtain ⟨gq, rfl⟩ := hw'; try simp only [ext_ext])
                go_wp2
                go_roundw
                case rel => exact ⟨k + 1, by omega, by omega, rfl, ext_of (by (repeat' (first | with_reducible exact Below.refl _ _ | with_reducible assumption | with_reducible refine below_ext ?_ ?_ _ | with_reducible refine Below.alloc ?_ ?_ _ | with_reducible refine Below.drew ?_ | with_reducible exact Nat.le_refl _ | (simp only [World.size_alloc, World.size_setCell, World.size_drew, size_ext]; omega) | (simp; omega))))⟩
                case measure => simp [intOf]; omega
          · obtain ⟨q0, q1, q2, q3, q4, cm, K1, K2, hq⟩ := both ca cb cc cd ce cf cg ch ci a b c d e' t0 t1 t2
            have i1 := risState_any q0 q1 q2 q3 q4
            rw [hq] at i1
            clear hq
            go_wp2
            go_region
            all_goals
              go_wp2_with (first | (go_at_call 24; refine (K1 _).mono ?_; rintro e w' ⟨rfl, hb⟩; obtain ⟨g, rfl⟩ := ext_of hb; clear hb) | (go_at_call 25; refine (K2 _).mono ?_; rintro e w' ⟨rfl, hb⟩; obtain ⟨g, rfl⟩ := ext_of hb; clear hb))
              (refine wp_region_ext (by kernel_rfl) (by kernel_rfl) ?_; (repeat (go_big_quiet_step ( first | (go_at_call 32; first | with_reducible exact call_ext2 (i1 _) | with_reducible exact call_ext (i1 _)) | (go_at_call 31; first | exact call_ext2 (isState_any _ _ _ _ _ _) | exact call_ext (isState_any _ _ _ _ _ _)) | (go_at_call 32; first | exact call_ext2 (risState_any _ _ _ _ _ _) | exact call_ext (risState_any _ _ _ _ _ _)) | (go_at_call 33; first | exact call_ext2 (skip_any _ _ _ _ _ _) | exact call_ext (skip_any _ _ _ _ _ _)) | (go_at_call 34; first | exact call_ext2 (rskip_any _ _ _ _ _ _) | exact call_ext (rskip_any _ _ _ _ _ _)) | (go_at_call 26; first | exact call_ext2 (late_any _ _ _ _ _ _ _ _ _ _ _ _ _ _ _) | exact call_ext (late_any _ _ _ _ _ _ _ _ _ _ _ _ _ _ _)) | (go_at_call 35; first | exact call_ext2 (rlate_any _ _ _ _ _ _ _ _ _ _ _ _ _ _ _) | exact call_ext (rlate_any _ _ _ _ _ _ _ _ _ _ _ _ _ _ _)) ))); (with_reducible refine wpQuiet_nil ?_); intro _ hw'; obtain ⟨gq, rfl⟩ := hw'; try simp only [ext_ext])
              go_wp2
              go_roundw
              case rel => exact ⟨k + 1, by omega, by omega, rfl, ext_of (by (repeat' (first | with_reducible exact Below.refl _ _ | with_reducible assumption | with_reducible refine below_ext ?_ ?_ _ | with_reducible refine Below.alloc ?_ ?_ _ | with_reducible refine Below.drew ?_ | with_reducible exact Nat.le_refl _ | (simp only [World.size_alloc, World.size_setCell, World.size_drew, size_ext]; omega) | (simp; omega))))⟩
              case measure => simp [intOf]; omega
        · go_wp2
          go_roundw
          case rel => exact ⟨s + 1, by omega, by omega, rfl, _, rfl⟩
          case measure => simp [intOf]; omega
    · go_wp2_with ((go_at_call 23; refine (sane_any _).mono ?_; rintro e w' ⟨rfl, hb⟩; obtain ⟨g, rfl⟩ := ext_of hb; clear hb))
      go_ret
      exact ⟨rfl, by (repeat' (first | with_reducible exact Below.refl _ _ | with_reducible assumption | with_reducible refine below_ext ?_ ?_ _ | with_reducible refine Below.alloc ?_ ?_ _ | with_reducible refine Below.drew ?_ | with_reducible exact Nat.le_refl _ | (simp only [World.size_alloc, World.size_setCell, World.size_drew, size_ext]; omega) | (simp; omega)))⟩
end Go.Proofs.Ytkanaakceokifaa.Do
