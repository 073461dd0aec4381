/- DoorRuns: the walk of the law. -/
import Derived.Test.YtkanaakceokifaaDoA
import Derived.Test.YtkanaakceokifaaRa
import Derived.Test.YtkanaakceokifaaOpen
namespace Go.Proofs.Ytkanaakceokifaa.Do
open Go.RowKit Go.Proofs.Ytkanaakceokifaa
set_option linter.unusedSimpArgs false
set_option linter.unusedVariables false

set_option maxRecDepth 100000 in
set_option maxHeartbeats 4000000 in
theorem runs_row (ca cb cc cd ce cf cg ch ci : Int) (b off len cap : Nat) (w : World) (hl : len ≤ cap) (hm : len ≤ 300) (hb : b < w.heap.size)
    (hc : ∀ i, i < len → ∃ (d : Int) (p q : Bool), w.cell? ⟨b, off + i * 3, none⟩ = some (.int .i64 d) ∧ w.cell? ⟨b, off + i * 3 + 1, none⟩ = some (.bool p) ∧ w.cell? ⟨b, off + i * 3 + 2, none⟩ = some (.bool q)) :
    Calls Try.prog 6 #[.agg #[.int .i64 ca, .int .i64 cb, .int .i64 cc, .int .i64 cd, .int .i64 ce, .int .i64 cf, .int .i64 cg, .int .i64 ch, .int .i64 ci], .slice (some ⟨b, off, none⟩) len cap] w fun e w' => e = .returned (.bool true) ∧ Below w.heap.size w w' := by
  have hm' : (len : Int) ≤ 300 := by omega
  have HC := Lib.hid hc
  clear hc
  go_enter Try.func6, Try.ntmps6
  go_wp2
  go_loopw [7] (fun i wr => ∃ k : Nat, k ≤ len ∧ i = .int .i64 (k : Int) ∧ ∃ (s0 s1 s2 : Int) (s3 : Bool) (s4 : Int) (g : Gr), wr = ext (((w.alloc (.cells #[.int .i64 ca, .int .i64 cb, .int .i64 cc, .int .i64 cd, .int .i64 ce, .int .i64 (bits .and .i64 cf 7), .int .i64 (wrap64 (bits .and .i64 cg 7 + 1)), .int .i64 (bits .and .i64 ch 31), .int .i64 ci] 33)).alloc (.cells #[.int .i64 s0, .int .i64 s1, .int .i64 s2, .bool s3, .int .i64 s4] 42)).alloc (.cells #[.int .i64 s0, .int .i64 s1, .int .i64 s2, .bool s3, .int .i64 s4] 42)) g) (fun i _ => len - (intOf i).toNat)
  case atStart => exact ⟨0, by omega, rfl, 0, 0, 0, false, 0, _, same_is_ext _⟩
  case round =>
    obtain ⟨k, hk, rfl, s0, s1, s2, s3, s4, g, rfl⟩ := hrel
    by_cases hlt : k < len
    · obtain ⟨d, p, q, c0, c1, c2⟩ := HC.out k hlt
      obtain ⟨q0, q1, q2, q3, q4, cm, K1, K2, hq⟩ := both ca cb cc cd ce (bits .and .i64 cf 7) (wrap64 (bits .and .i64 cg 7 + 1)) (bits .and .i64 ch 31) ci s0 s1 s2 s3 s4 d p q
      clear hq
      have hi0 : (0 : Int) ≤ k := by omega
      have hi1 : (k : Int) < len := by omega
      go_wp2
      refine wp_region_alloc 21 (d := _) (z := #[.int .i64 0, .int .i64 0, .int .i64 0, .bool false, .int .i64 0]) (T := 42) (by kernel_rfl) (by kernel_rfl) rfl rfl rfl (fun ρ w => by simp [go_sem]) rfl (fun _ _ d _ _ h => by cases d <;> exact h) ?_
      simp only [List.take_succ_cons, List.take_zero, List.drop_succ_cons, List.drop_zero]
      (repeat (first | (refine wpBoth_skip rfl ?_; simp only [Act.put, List.setIfInBounds_toArray, List.set_cons_zero, List.set_cons_succ]) | (refine' wpBoth_want _ rfl ?_ ?_ ?_; rotate_left 1; (focus (go_big_quiet_op; first | exact rfl | (apply Exists.intro; refine ⟨fun _ => ?_, ?_⟩; (focus ( (go_at_call 24; first | exact call_ext2 (K1 _) | exact call_ext (K1 _)) )); exact rfl))); (focus (intro g1; go_big_quiet_op; first | exact rfl | (apply Exists.intro; refine ⟨fun _ => ?_, ?_⟩; (focus ( (go_at_call 24; first | exact call_ext2 (K1 _) | exact call_ext (K1 _)) )); exact rfl))))))
      (refine wpBoth_nil ?_; intro g1 g2; simp only [newPtr, World.size_alloc, World.size_setCell, size_ext, add_add_n, add_drew_n, Act.put, List.setIfInBounds_toArray, List.set_cons_zero, List.set_cons_succ])
      go_wp2
      refine wp_region_alloc 21 (d := _) (z := #[.int .i64 0, .int .i64 0, .int .i64 0, .bool false, .int .i64 0]) (T := 42) (by kernel_rfl) (by kernel_rfl) rfl rfl rfl (fun ρ w => by simp [go_sem]) rfl (fun _ _ d _ _ h => by cases d <;> exact h) ?_
      simp only [List.take_succ_cons, List.take_zero, List.drop_succ_cons, List.drop_zero]
      (repeat (first | (refine wpBoth_skip rfl ?_; simp only [Act.put, List.setIfInBounds_toArray, List.set_cons_zero, List.set_cons_succ]) | (refine' wpBoth_want _ rfl ?_ ?_ ?_; rotate_left 1; (focus (go_big_quiet_op; first | exact rfl | (apply Exists.intro; refine ⟨fun _ => ?_, ?_⟩; (focus ( (go_at_call 25; first | exact call_ext2 (K2 _) | exact call_ext (K2 _)) )); exact rfl))); (focus (intro g1; go_big_quiet_op; first | exact rfl | (apply Exists.intro; refine ⟨fun _ => ?_, ?_⟩; (focus ( (go_at_call 25; first | exact call_ext2 (K2 _) | exact call_ext (K2 _)) )); exact rfl))))))
      (refine wpBoth_nil ?_; intro g1 g2; simp only [newPtr, World.size_alloc, World.size_setCell, size_ext, add_add_n, add_drew_n, Act.put, List.setIfInBounds_toArray, List.set_cons_zero, List.set_cons_succ])
      go_wp2
      go_region
      all_goals
        go_wp2
        go_roundw
        case rel => exact ⟨k + 1, by omega, by go_num, q0, q1, q2, q3, q4, ext_of (by (repeat' (first | with_reducible exact Below.refl _ _ | with_reducible assumption | with_reducible refine below_ext ?_ ?_ _ | with_reducible refine Below.alloc ?_ ?_ _ | with_reducible refine Below.drew ?_ | with_reducible exact Nat.le_refl _ | (simp only [World.size_alloc, World.size_setCell, World.size_drew, size_ext, add_add_n, add_drew_n]; omega) | (simp; omega))))⟩
        case measure => simp [intOf]; omega
    · go_wp2_with ((go_at_call 23; refine (sane_any _).mono ?_; rintro e w' ⟨rfl, hb⟩; obtain ⟨g, rfl⟩ := ext_of hb; clear hb))
      go_ret
      exact ⟨rfl, by (repeat' (first | with_reducible exact Below.refl _ _ | with_reducible assumption | with_reducible refine below_ext ?_ ?_ _ | with_reducible refine Below.alloc ?_ ?_ _ | with_reducible refine Below.drew ?_ | with_reducible exact Nat.le_refl _ | (simp only [World.size_alloc, World.size_setCell, World.size_drew, size_ext, add_add_n, add_drew_n]; omega) | (simp; omega)))⟩

theorem runs_walk (ca cb cc cd ce cf cg ch ci : Int) (v : Value) (w : World) (hv : IsSlice w 3 E_T46 v) :
    Calls Try.prog 6 #[.agg #[.int .i64 ca, .int .i64 cb, .int .i64 cc, .int .i64 cd, .int .i64 ce, .int .i64 cf, .int .i64 cg, .int .i64 ch, .int .i64 ci], v] w fun e w' => e = .returned (.bool true) ∧ Below w.heap.size w w' := by
  rcases hv with rfl | ⟨a, len, cap, rfl, hl, hm, hc⟩
  · go_enter Try.func6, Try.ntmps6
    go_wp2
    refine wp_loop_rounds 1 ?_
    rw [rounds_succ]
    go_wp2_with ((go_at_call 23; refine (sane_any _).mono ?_; rintro e w' ⟨rfl, hb⟩; obtain ⟨g, rfl⟩ := ext_of hb; clear hb))
    go_ret
    exact ⟨rfl, by (repeat' (first | with_reducible exact Below.refl _ _ | with_reducible assumption | with_reducible refine below_ext ?_ ?_ _ | with_reducible refine Below.alloc ?_ ?_ _ | with_reducible refine Below.drew ?_ | with_reducible exact Nat.le_refl _ | (simp only [World.size_alloc, World.size_setCell, World.size_drew, size_ext, add_add_n, add_drew_n]; omega) | (simp; omega)))⟩
  · by_cases h3 : len ≤ 300
    · by_cases h0 : len = 0
      · subst h0
        go_enter Try.func6, Try.ntmps6
        go_wp2
        refine wp_loop_rounds 1 ?_
        rw [rounds_succ]
        go_wp2_with ((go_at_call 23; refine (sane_any _).mono ?_; rintro e w' ⟨rfl, hb⟩; obtain ⟨g, rfl⟩ := ext_of hb; clear hb))
        go_ret
        exact ⟨rfl, by (repeat' (first | with_reducible exact Below.refl _ _ | with_reducible assumption | with_reducible refine below_ext ?_ ?_ _ | with_reducible refine Below.alloc ?_ ?_ _ | with_reducible refine Below.drew ?_ | with_reducible exact Nat.le_refl _ | (simp only [World.size_alloc, World.size_setCell, World.size_drew, size_ext, add_add_n, add_drew_n]; omega) | (simp; omega)))⟩
      · obtain ⟨cs0, _, _, hs, hb, _⟩ := hc 0 (by omega)
        obtain ⟨b, off, sp⟩ := a
        simp only at hs hb
        subst hs
        refine runs_row ca cb cc cd ce cf cg ch ci b off len cap w hl h3 hb fun i hi => ?_
        obtain ⟨cs, _, he, _, _, hcell⟩ := hc i hi
        obtain ⟨d, p, q, rfl, _⟩ := he
        exact ⟨d, p, q, by simpa using hcell 0 (by omega), by simpa [Nat.add_assoc] using hcell 1 (by omega), by simpa [Nat.add_assoc] using hcell 2 (by omega)⟩
    · unfold maxLen at hm
      have h3' : (300 : Int) < len := by omega
      have hm' : (len : Int) ≤ 9223372036854775807 := by omega
      clear h3
      go_enter Try.func6, Try.ntmps6
      go_wp2_with ((go_at_call 23; refine (sane_any _).mono ?_; rintro e w' ⟨rfl, hb⟩; obtain ⟨g, rfl⟩ := ext_of hb; clear hb))
      go_ret
      exact ⟨rfl, by (repeat' (first | with_reducible exact Below.refl _ _ | with_reducible assumption | with_reducible refine below_ext ?_ ?_ _ | with_reducible refine Below.alloc ?_ ?_ _ | with_reducible refine Below.drew ?_ | with_reducible exact Nat.le_refl _ | (simp only [World.size_alloc, World.size_setCell, World.size_drew, size_ext, add_add_n, add_drew_n]; omega) | (simp; omega)))⟩
end Go.Proofs.Ytkanaakceokifaa.Do
