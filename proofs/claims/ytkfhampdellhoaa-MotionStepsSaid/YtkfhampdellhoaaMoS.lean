/- MotionSteps: the walk of the law. -/
import Derived.Test.YtkfhampdellhoaaMoB
namespace Go.Proofs.Ytkfhampdellhoaa.Mo
open Go.RowKit Go.Proofs.Ytkfhampdellhoaa
set_option linter.unusedSimpArgs false
set_option linter.unusedVariables false

theorem floors_bd (fl : Int) : 2 ≤ wrap64 (2 + wrap64 ((IntKind.u64.wrap fl).tmod 31)) ∧ wrap64 (2 + wrap64 ((IntKind.u64.wrap fl).tmod 31)) ≤ 32 := by
  have h0 : 0 ≤ IntKind.u64.wrap fl := by rw [IntKind.wrap_u64]; omega
  rw [Int.tmod_eq_emod_of_nonneg h0]
  generalize IntKind.u64.wrap fl = u at *
  have e1 : wrap64 (u % 31) = u % 31 := IntWalk.wrap64_in _ ⟨by omega, by omega⟩
  have e2 : wrap64 (2 + u % 31) = 2 + u % 31 := IntWalk.wrap64_in _ ⟨by omega, by omega⟩
  rw [e1, e2]
  omega

set_option maxRecDepth 100000 in
set_option maxHeartbeats 4000000 in
theorem steps_walk (fl s0 s1 s2 f0 : Int) (f1 : Bool) (f2 : Int) (f3 : Bool) (wa ca cb cc cd ce cf cg ch ci : Int) (w : World) :
    Calls Try.prog 5 #[.int .i64 fl, .agg #[.int .i64 s0, .int .i64 s1, .int .i64 s2], .agg #[.int .i64 f0, .bool f1, .int .i64 f2, .bool f3, .int .i64 wa, .int .i64 ca, .int .i64 cb, .int .i64 cc, .int .i64 cd, .int .i64 ce, .int .i64 cf, .int .i64 cg, .int .i64 ch, .int .i64 ci]] w fun e w' => e = .returned (.bool true) ∧ Below w.heap.size w w' := by
  have nb := floors_bd fl
  go_enter Try.func5, Try.ntmps5
  go_wp2
  generalize wrap64 (2 + wrap64 ((IntKind.u64.wrap fl).tmod 31)) = N at *
  obtain ⟨n2, n32⟩ := nb
  go_loopw [8] (fun i wr => ∃ c : Int, -1 ≤ c ∧ c ≤ 4 ∧ i = .int .i64 c ∧ ∃ g, wr = ext ((w.alloc (.cells #[.int .i64 s0, .int .i64 s1, .int .i64 s2] 27)).alloc (.cells #[.int .i64 f0, .bool f1, .int .i64 f2, .bool f3, .int .i64 wa, .int .i64 ca, .int .i64 cb, .int .i64 cc, .int .i64 cd, .int .i64 ce, .int .i64 cf, .int .i64 cg, .int .i64 ch, .int .i64 ci] 37)) g) (fun i _ => (4 - intOf i).toNat)
  case atStart => exact ⟨-1, by omega, by omega, rfl, _, same_is_ext _⟩
  case round =>
    obtain ⟨c, hc0, hc1, rfl, g, rfl⟩ := hrel
    by_cases hlt : c < 4
    · go_wp2
      go_loopw [9] (fun i wr => ∃ f : Int, -1 ≤ f ∧ f ≤ N + 1 ∧ i = .int .i64 f ∧ ∃ g, wr = ext ((w.alloc (.cells #[.int .i64 s0, .int .i64 s1, .int .i64 s2] 27)).alloc (.cells #[.int .i64 f0, .bool f1, .int .i64 f2, .bool f3, .int .i64 wa, .int .i64 ca, .int .i64 cb, .int .i64 cc, .int .i64 cd, .int .i64 ce, .int .i64 cf, .int .i64 cg, .int .i64 ch, .int .i64 ci] 37)) g) (fun i _ => (N + 1 - intOf i).toNat)
      case atStart => exact ⟨-1, by omega, by omega, rfl, _, rfl⟩
      case round =>
        obtain ⟨f, hf0, hf1, rfl, g1, rfl⟩ := hrel
        by_cases hlf : f ≤ N
        · go_wp2
          go_loopw [11] (fun i wr => ∃ d : Int, -2 ≤ d ∧ d ≤ 3 ∧ i = .int .i64 d ∧ ∃ g, wr = ext ((ext ((w.alloc (.cells #[.int .i64 s0, .int .i64 s1, .int .i64 s2] 27)).alloc (.cells #[.int .i64 f0, .bool f1, .int .i64 f2, .bool f3, .int .i64 wa, .int .i64 ca, .int .i64 cb, .int .i64 cc, .int .i64 cd, .int .i64 ce, .int .i64 cf, .int .i64 cg, .int .i64 ch, .int .i64 ci] 37)) g1).alloc (.cells #[.int .i64 c, .int .i64 (bits .and .i64 s1 1048575), .int .i64 f] 27)) g) (fun i _ => (3 - intOf i).toNat)
          case atStart => exact ⟨-2, by omega, by omega, rfl, _, same_is_ext _⟩
          case round =>
            obtain ⟨d, hd0, hd1, rfl, g2, rfl⟩ := hrel
            by_cases hld : d < 3
            · go_wp2_with ((go_at_call 13; refine (same_any _ _ _ _ _ _ _ _ _ _ _ _ _ _ _ _ _ _ _).mono ?_; rintro e w' ⟨rfl, hb⟩; obtain ⟨g, rfl⟩ := ext_of hb; clear hb))
              go_roundw
              case rel => exact ⟨d + 1, by omega, by omega, rfl, ext_of (by (repeat' (first | with_reducible exact Below.refl _ _ | with_reducible assumption | with_reducible refine below_ext ?_ ?_ _ | with_reducible refine Below.alloc ?_ ?_ _ | with_reducible refine Below.drew ?_ | with_reducible exact Nat.le_refl _ | (simp only [World.size_alloc, World.size_setCell, World.size_drew, size_ext]; omega) | (simp; omega))))⟩
              case measure => simp [intOf]; omega
            · go_wp2
              go_roundw
              case rel => exact ⟨f + 1, by omega, by omega, rfl, ext_of (by (repeat' (first | with_reducible exact Below.refl _ _ | with_reducible assumption | with_reducible refine below_ext ?_ ?_ _ | with_reducible refine Below.alloc ?_ ?_ _ | with_reducible refine Below.drew ?_ | with_reducible exact Nat.le_refl _ | (simp only [World.size_alloc, World.size_setCell, World.size_drew, size_ext]; omega) | (simp; omega))))⟩
              case measure => simp [intOf]; omega
        · go_wp2
          go_roundw
          case rel => exact ⟨c + 1, by omega, by omega, rfl, _, rfl⟩
          case measure => simp [intOf]; omega
    · go_wp2_with (first | (go_at_call 13; refine (same_any _ _ _ _ _ _ _ _ _ _ _ _ _ _ _ _ _ _ _).mono ?_; rintro e w' ⟨rfl, hb⟩; obtain ⟨g, rfl⟩ := ext_of hb; clear hb) | (go_at_call 12; refine (sane_any _).mono ?_; rintro e w' ⟨rfl, hb⟩; obtain ⟨g, rfl⟩ := ext_of hb; clear hb))
      go_ret
      exact ⟨rfl, by (repeat' (first | with_reducible exact Below.refl _ _ | with_reducible assumption | with_reducible refine below_ext ?_ ?_ _ | with_reducible refine Below.alloc ?_ ?_ _ | with_reducible refine Below.drew ?_ | with_reducible exact Nat.le_refl _ | (simp only [World.size_alloc, World.size_setCell, World.size_drew, size_ext]; omega) | (simp; omega)))⟩
end Go.Proofs.Ytkfhampdellhoaa.Mo
