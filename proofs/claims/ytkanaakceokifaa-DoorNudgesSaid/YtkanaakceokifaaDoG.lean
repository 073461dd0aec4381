/- DoorNudges: the walk of the law. -/
import Derived.Test.YtkanaakceokifaaDoA
import Derived.Test.YtkanaakceokifaaRa
import Derived.Test.YtkanaakceokifaaOpen
namespace Go.Proofs.Ytkanaakceokifaa.Do
open Go.RowKit Go.Proofs.Ytkanaakceokifaa
set_option linter.unusedSimpArgs false
set_option linter.unusedVariables false

/-- The step of a state that is not idle, by its outcome. -/
theorem out_at {ca cb cc cd ce cf dw ho ci a b c : Int} {d : Bool} {e' door : Int} {bl want : Bool} {q0 q1 q2 : Int} {q3 : Bool} {q4 cm si2 : Int} (ha : 1 ≤ a ∧ a ≤ 3) (hb : 0 ≤ b ∧ b ≤ 1000000) (hc : 0 ≤ c ∧ c ≤ 1000) (he : 0 ≤ e' ∧ e' ≤ 1000)
    (h2 : (c = 0 ∧ si2 = 0) ∨ (0 < c ∧ si2 = c + 1)) (h : coreD dw ho ⟨a, b, si2, d, e'⟩ door bl = (⟨q0, q1, q2, q3, q4⟩, cm)) (w : World) :
    Calls Try.prog 24 #[.agg #[.int .i64 ca, .int .i64 cb, .int .i64 cc, .int .i64 cd, .int .i64 ce, .int .i64 cf, .int .i64 dw, .int .i64 ho, .int .i64 ci], .agg #[.int .i64 a, .int .i64 b, .int .i64 c, .bool d, .int .i64 e'], .int .i64 door, .bool bl, .bool want] w fun e w' => e = .returned (.tuple #[.agg #[.int .i64 q0, .int .i64 q1, .int .i64 q2, .bool q3, .int .i64 q4], .int .i64 cm]) ∧ Below w.heap.size w w' := by
  refine step_at ?_ w
  have hs : isD ⟨a, b, c, d, e'⟩ = true := by simp [isD, cnt]; omega
  have ht : ctd ⟨a, b, c, d, e'⟩ = ⟨a, b, si2, d, e'⟩ := by
    unfold ctd mo
    rcases h2 with ⟨h0, h1⟩ | ⟨h0, h1⟩
    · simp [h0, h1]
    · have : c ≠ 0 := by omega
      simp [this, h1]; omega
  have h0 : (⟨a, b, c, d, e'⟩ : D).st ≠ 0 := by show a ≠ 0; omega
  rw [stepD, if_pos ⟨hs, h0⟩, ht, h]

set_option maxRecDepth 100000 in
set_option maxHeartbeats 8000000 in
theorem nudges_row (x y : Int) (b off len cap : Nat) (w : World) (bx : 0 ≤ x ∧ x ≤ 255) (bY : 0 ≤ y ∧ y ≤ 255) (hl : len ≤ cap) (hm : len ≤ 300) (hb : b < w.heap.size)
    (hc : ∀ i, i < len → ∃ (d : Int) (p q : Bool), w.cell? ⟨b, off + i * 3, none⟩ = some (.int .i64 d) ∧ w.cell? ⟨b, off + i * 3 + 1, none⟩ = some (.bool p) ∧ w.cell? ⟨b, off + i * 3 + 2, none⟩ = some (.bool q)) :
    Calls Try.prog 7 #[.agg #[.int .u8 x, .int .u8 y], .slice (some ⟨b, off, none⟩) len cap] w fun e w' => e = .returned (.bool true) ∧ Below w.heap.size w w' := by
  have hm' : (len : Int) ≤ 300 := by omega
  have HC := Lib.hid hc
  clear hc
  have S0 := fun dw ho => @step_at 0 0 0 0 0 3 dw ho 0 0 0 0 false 0 2 false true (Value.tuple #[.agg #[.int .i64 1, .int .i64 0, .int .i64 0, .bool false, .int .i64 0], .int .i64 3]) (by rw [stepD, if_neg (by simp)]; rfl)
  go_enter Try.func7, Try.ntmps7
  go_wp2_with ((go_at_call 24; refine (S0 _ _ _).mono ?_; rintro e w' ⟨rfl, hb⟩; obtain ⟨g, rfl⟩ := ext_of hb; clear hb))
  have q1 : 1 ≤ 1 + x % 6 + y % 40 ∧ 1 + x % 6 + y % 40 ≤ 100 := by omega
  generalize 1 + x % 6 + y % 40 = ho at *
  have q2 : 1 ≤ 1 + x % 6 ∧ 1 + x % 6 ≤ 6 := by omega
  generalize 1 + x % 6 = dw at *
  obtain ⟨h1, h2⟩ := q1
  obtain ⟨d1, d2⟩ := q2
  clear S0
  go_loopw [8, 9] (fun sv i wr => ∃ (k : Nat) (st tm si : Int) (nu : Bool) (cy : Int), k ≤ len ∧ i = .int .i64 (k : Int) ∧ sv = .int .i64 si ∧ (st = 1 ∨ st = 2 ∨ st = 3) ∧ 0 ≤ tm ∧ tm ≤ 1000000 ∧ 0 ≤ si ∧ si ≤ k + 1 ∧ 0 ≤ cy ∧ cy ≤ k ∧ (st = 1 ∨ 0 < si) ∧ ∃ g', wr = ext ((ext ((w.alloc (.cells #[.int .u8 x, .int .u8 y] 48)).alloc (.cells #[.int .i64 0, .int .i64 0, .int .i64 0, .int .i64 0, .int .i64 0, .int .i64 3, .int .i64 dw, .int .i64 ho, .int .i64 0] 33)) g).alloc (.cells #[.int .i64 st, .int .i64 tm, .int .i64 si, .bool nu, .int .i64 cy] 42)) g') (fun _ i _ => len - (intOf i).toNat)
  case atStart => exact ⟨0, 1, 0, 0, false, 0, by omega, rfl, rfl, .inl rfl, by omega, by omega, by omega, by omega, by omega, by omega, .inl rfl, _, same_is_ext _⟩
  case round =>
    obtain ⟨k, st, tm, si, nu, cy, hk, rfl, rfl, hst, t0, t1, s0, s1, y0, y1, hs, g', rfl⟩ := hrel
    by_cases hlt : k < len
    · obtain ⟨d, p, q, c0, c1, c2⟩ := HC.out k hlt
      have hi0 : (0 : Int) ≤ k := by omega
      have hi1 : (k : Int) < len := by omega
      have m0 : 0 ≤ mo tm ∧ mo tm ≤ 1000000 := by unfold mo; omega
      rcases hst with rfl | rfl | rfl
      · by_cases hz : si = 0
        · subst hz
          clear s0 s1 hs
          by_cases hd : d = 1
          · subst hd
            have K1 : ∀ w, _ := @out_at 0 0 0 0 0 3 dw ho 0 1 tm 0 nu cy 1 p false 2 0 1 nu cy 0 0 (by omega) ⟨t0, t1⟩ (by omega) (by omega) (.inl ⟨rfl, rfl⟩) (by simp [coreD, zero, max]; try omega)
            go_wp2
            refine wp_region_alloc 16 (d := _) (z := #[.int .i64 0, .int .i64 0, .int .i64 0, .bool false, .int .i64 0]) (T := 42) (by kernel_rfl) (by kernel_rfl) rfl rfl rfl (fun ρ w => by simp [go_sem]) rfl (fun _ _ d _ _ h => by cases d <;> exact h) ?_
            simp only [List.take_succ_cons, List.take_zero, List.drop_succ_cons, List.drop_zero]
            (repeat (first | (refine wpBoth_skip rfl ?_; simp only [Act.put, List.setIfInBounds_toArray, List.set_cons_zero, List.set_cons_succ]) | (refine' wpBoth_want _ rfl ?_ ?_ ?_; rotate_left 1; (focus (go_big_quiet_op; first | exact rfl | (apply Exists.intro; refine ⟨fun _ => ?_, ?_⟩; (focus ( (go_at_call 24; first | exact call_ext2 (K1 _) | exact call_ext (K1 _)) )); exact rfl))); (focus (intro g1; go_big_quiet_op; first | exact rfl | (apply Exists.intro; refine ⟨fun _ => ?_, ?_⟩; (focus ( (go_at_call 24; first | exact call_ext2 (K1 _) | exact call_ext (K1 _)) )); exact rfl))))))
            (refine wpBoth_nil ?_; intro g1 g2; simp only [newPtr, World.size_alloc, World.size_setCell, size_ext, add_add_n, add_drew_n, Act.put, List.setIfInBounds_toArray, List.set_cons_zero, List.set_cons_succ])
            go_wp2
            all_goals
              go_roundw
              case rel => exact ⟨k + 1, 2, 0, 1, nu, cy, by omega, by go_num, rfl, by omega, by omega, by omega, by omega, by omega, by omega, by omega, by omega, ext_of (by (repeat' (first | with_reducible exact Below.refl _ _ | with_reducible assumption | with_reducible refine below_ext ?_ ?_ _ | with_reducible refine Below.alloc ?_ ?_ _ | with_reducible refine Below.drew ?_ | with_reducible exact Nat.le_refl _ | (simp only [World.size_alloc, World.size_setCell, World.size_drew, size_ext, add_add_n, add_drew_n]; omega) | (simp; omega))))⟩
              case measure => simp [intOf]; omega
          · have hn : (d == 1) = false := by simpa using hd
            have K1 : ∀ w, _ := @out_at 0 0 0 0 0 3 dw ho 0 1 tm 0 nu cy d p false 1 (mo tm) 0 nu cy 3 0 (by omega) ⟨t0, t1⟩ (by omega) (by omega) (.inl ⟨rfl, rfl⟩) (by simp [coreD, zero, hd, show ¬ ho < 0 by omega]; try omega)
            go_wp2
            refine wp_region_alloc 16 (d := _) (z := #[.int .i64 0, .int .i64 0, .int .i64 0, .bool false, .int .i64 0]) (T := 42) (by kernel_rfl) (by kernel_rfl) rfl rfl rfl (fun ρ w => by simp [go_sem]) rfl (fun _ _ d _ _ h => by cases d <;> exact h) ?_
            simp only [List.take_succ_cons, List.take_zero, List.drop_succ_cons, List.drop_zero]
            (repeat (first | (refine wpBoth_skip rfl ?_; simp only [Act.put, List.setIfInBounds_toArray, List.set_cons_zero, List.set_cons_succ]) | (refine' wpBoth_want _ rfl ?_ ?_ ?_; rotate_left 1; (focus (go_big_quiet_op; first | exact rfl | (apply Exists.intro; refine ⟨fun _ => ?_, ?_⟩; (focus ( (go_at_call 24; first | exact call_ext2 (K1 _) | exact call_ext (K1 _)) )); exact rfl))); (focus (intro g1; go_big_quiet_op; first | exact rfl | (apply Exists.intro; refine ⟨fun _ => ?_, ?_⟩; (focus ( (go_at_call 24; first | exact call_ext2 (K1 _) | exact call_ext (K1 _)) )); exact rfl))))))
            (refine wpBoth_nil ?_; intro g1 g2; simp only [newPtr, World.size_alloc, World.size_setCell, size_ext, add_add_n, add_drew_n, Act.put, List.setIfInBounds_toArray, List.set_cons_zero, List.set_cons_succ])
            go_wp2
            all_goals
              go_roundw
              case rel => exact ⟨k + 1, 1, (mo tm), 0, nu, cy, by omega, by go_num, rfl, by omega, by omega, by omega, by omega, by omega, by omega, by omega, by omega, ext_of (by (repeat' (first | with_reducible exact Below.refl _ _ | with_reducible assumption | with_reducible refine below_ext ?_ ?_ _ | with_reducible refine Below.alloc ?_ ?_ _ | with_reducible refine Below.drew ?_ | with_reducible exact Nat.le_refl _ | (simp only [World.size_alloc, World.size_setCell, World.size_drew, size_ext, add_add_n, add_drew_n]; omega) | (simp; omega))))⟩
              case measure => simp [intOf]; omega
        · have sp : 0 < si := by omega
          by_cases hd : d = 1
          · subst hd
            clear hs hz
            have K1 : ∀ w, _ := @out_at 0 0 0 0 0 3 dw ho 0 1 tm si nu cy 1 p false 2 0 (si + 1) nu cy 0 (si + 1) (by omega) ⟨t0, t1⟩ (by omega) (by omega) (.inr ⟨by omega, rfl⟩) (by simp [coreD, zero, show max (si + 1) 1 = si + 1 by omega]; try omega)
            go_wp2
            refine wp_region_alloc 16 (d := _) (z := #[.int .i64 0, .int .i64 0, .int .i64 0, .bool false, .int .i64 0]) (T := 42) (by kernel_rfl) (by kernel_rfl) rfl rfl rfl (fun ρ w => by simp [go_sem]) rfl (fun _ _ d _ _ h => by cases d <;> exact h) ?_
            simp only [List.take_succ_cons, List.take_zero, List.drop_succ_cons, List.drop_zero]
            (repeat (first | (refine wpBoth_skip rfl ?_; simp only [Act.put, List.setIfInBounds_toArray, List.set_cons_zero, List.set_cons_succ]) | (refine' wpBoth_want _ rfl ?_ ?_ ?_; rotate_left 1; (focus (go_big_quiet_op; first | exact rfl | (apply Exists.intro; refine ⟨fun _ => ?_, ?_⟩; (focus ( (go_at_call 24; first | exact call_ext2 (K1 _) | exact call_ext (K1 _)) )); exact rfl))); (focus (intro g1; go_big_quiet_op; first | exact rfl | (apply Exists.intro; refine ⟨fun _ => ?_, ?_⟩; (focus ( (go_at_call 24; first | exact call_ext2 (K1 _) | exact call_ext (K1 _)) )); exact rfl))))))
            (refine wpBoth_nil ?_; intro g1 g2; simp only [newPtr, World.size_alloc, World.size_setCell, size_ext, add_add_n, add_drew_n, Act.put, List.setIfInBounds_toArray, List.set_cons_zero, List.set_cons_succ])
            go_wp2
            all_goals
              go_roundw
              case rel => exact ⟨k + 1, 2, 0, (si + 1), nu, cy, by omega, by go_num, rfl, by omega, by omega, by omega, by omega, by omega, by omega, by omega, by omega, ext_of (by (repeat' (first | with_reducible exact Below.refl _ _ | with_reducible assumption | with_reducible refine below_ext ?_ ?_ _ | with_reducible refine Below.alloc ?_ ?_ _ | with_reducible refine Below.drew ?_ | with_reducible exact Nat.le_refl _ | (simp only [World.size_alloc, World.size_setCell, World.size_drew, size_ext, add_add_n, add_drew_n]; omega) | (simp; omega))))⟩
              case measure => simp [intOf]; omega
          · have hn : (d == 1) = false := by simpa using hd
            by_cases hl : ho < si + 1
            · have hz1 : (si == 0) = false := by simpa using hz
              clear hs hz
              have K1 : ∀ w, _ := @out_at 0 0 0 0 0 3 dw ho 0 1 tm si nu cy d p false 3 0 (si + 1) true cy 5 (si + 1) (by omega) ⟨t0, t1⟩ (by omega) (by omega) (.inr ⟨by omega, rfl⟩) (by simp [coreD, zero, hd, hl]; try omega)
              go_wp2
              refine wp_region_alloc 16 (d := _) (z := #[.int .i64 0, .int .i64 0, .int .i64 0, .bool false, .int .i64 0]) (T := 42) (by kernel_rfl) (by kernel_rfl) rfl rfl rfl (fun ρ w => by simp [go_sem]) rfl (fun _ _ d _ _ h => by cases d <;> exact h) ?_
              simp only [List.take_succ_cons, List.take_zero, List.drop_succ_cons, List.drop_zero]
              (repeat (first | (refine wpBoth_skip rfl ?_; simp only [Act.put, List.setIfInBounds_toArray, List.set_cons_zero, List.set_cons_succ]) | (refine' wpBoth_want _ rfl ?_ ?_ ?_; rotate_left 1; (focus (go_big_quiet_op; first | exact rfl | (apply Exists.intro; refine ⟨fun _ => ?_, ?_⟩; (focus ( (go_at_call 24; first | exact call_ext2 (K1 _) | exact call_ext (K1 _)) )); exact rfl))); (focus (intro g1; go_big_quiet_op; first | exact rfl | (apply Exists.intro; refine ⟨fun _ => ?_, ?_⟩; (focus ( (go_at_call 24; first | exact call_ext2 (K1 _) | exact call_ext (K1 _)) )); exact rfl))))))
              (refine wpBoth_nil ?_; intro g1 g2; simp only [newPtr, World.size_alloc, World.size_setCell, size_ext, add_add_n, add_drew_n, Act.put, List.setIfInBounds_toArray, List.set_cons_zero, List.set_cons_succ])
              go_wp2
              all_goals
                go_roundw
                case rel => exact ⟨k + 1, 3, 0, (si + 1), true, cy, by omega, by go_num, rfl, by omega, by omega, by omega, by omega, by omega, by omega, by omega, by omega, ext_of (by (repeat' (first | with_reducible exact Below.refl _ _ | with_reducible assumption | with_reducible refine below_ext ?_ ?_ _ | with_reducible refine Below.alloc ?_ ?_ _ | with_reducible refine Below.drew ?_ | with_reducible exact Nat.le_refl _ | (simp only [World.size_alloc, World.size_setCell, World.size_drew, size_ext, add_add_n, add_drew_n]; omega) | (simp; omega))))⟩
                case measure => simp [intOf]; omega
            · have hz1 : (si == 0) = false := by simpa using hz
              clear hs hz
              have K1 : ∀ w, _ := @out_at 0 0 0 0 0 3 dw ho 0 1 tm si nu cy d p false 1 (mo tm) (si + 1) nu cy 3 (si + 1) (by omega) ⟨t0, t1⟩ (by omega) (by omega) (.inr ⟨by omega, rfl⟩) (by simp [coreD, zero, hd, hl]; try omega)
              go_wp2
              refine wp_region_alloc 16 (d := _) (z := #[.int .i64 0, .int .i64 0, .int .i64 0, .bool false, .int .i64 0]) (T := 42) (by kernel_rfl) (by kernel_rfl) rfl rfl rfl (fun ρ w => by simp [go_sem]) rfl (fun _ _ d _ _ h => by cases d <;> exact h) ?_
              simp only [List.take_succ_cons, List.take_zero, List.drop_succ_cons, List.drop_zero]
              (repeat (first | (refine wpBoth_skip rfl ?_; simp only [Act.put, List.setIfInBounds_toArray, List.set_cons_zero, List.set_cons_succ]) | (refine' wpBoth_want _ rfl ?_ ?_ ?_; rotate_left 1; (focus (go_big_quiet_op; first | exact rfl | (apply Exists.intro; refine ⟨fun _ => ?_, ?_⟩; (focus ( (go_at_call 24; first | exact call_ext2 (K1 _) | exact call_ext (K1 _)) )); exact rfl))); (focus (intro g1; go_big_quiet_op; first | exact rfl | (apply Exists.intro; refine ⟨fun _ => ?_, ?_⟩; (focus ( (go_at_call 24; first | exact call_ext2 (K1 _) | exact call_ext (K1 _)) )); exact rfl))))))
              (refine wpBoth_nil ?_; intro g1 g2; simp only [newPtr, World.size_alloc, World.size_setCell, size_ext, add_add_n, add_drew_n, Act.put, List.setIfInBounds_toArray, List.set_cons_zero, List.set_cons_succ])
              go_wp2
              all_goals
                go_roundw
                case rel => exact ⟨k + 1, 1, (mo tm), (si + 1), nu, cy, by omega, by go_num, rfl, by omega, by omega, by omega, by omega, by omega, by omega, by omega, by omega, ext_of (by (repeat' (first | with_reducible exact Below.refl _ _ | with_reducible assumption | with_reducible refine below_ext ?_ ?_ _ | with_reducible refine Below.alloc ?_ ?_ _ | with_reducible refine Below.drew ?_ | with_reducible exact Nat.le_refl _ | (simp only [World.size_alloc, World.size_setCell, World.size_drew, size_ext, add_add_n, add_drew_n]; omega) | (simp; omega))))⟩
                case measure => simp [intOf]; omega
      · have sp : 0 < si := by omega
        clear hs
        by_cases hl : ho < si + 1
        · have hz1 : (2 : Int) ≠ 3 := by omega
          have K1 : ∀ w, _ := @out_at 0 0 0 0 0 3 dw ho 0 2 tm si nu cy d p false 3 0 (si + 1) true cy 5 (si + 1) (by omega) ⟨t0, t1⟩ (by omega) (by omega) (.inr ⟨by omega, rfl⟩) (by simp [coreD, zero, hl]; try omega)
          go_wp2
          refine wp_region_alloc 16 (d := _) (z := #[.int .i64 0, .int .i64 0, .int .i64 0, .bool false, .int .i64 0]) (T := 42) (by kernel_rfl) (by kernel_rfl) rfl rfl rfl (fun ρ w => by simp [go_sem]) rfl (fun _ _ d _ _ h => by cases d <;> exact h) ?_
          simp only [List.take_succ_cons, List.take_zero, List.drop_succ_cons, List.drop_zero]
          (repeat (first | (refine wpBoth_skip rfl ?_; simp only [Act.put, List.setIfInBounds_toArray, List.set_cons_zero, List.set_cons_succ]) | (refine' wpBoth_want _ rfl ?_ ?_ ?_; rotate_left 1; (focus (go_big_quiet_op; first | exact rfl | (apply Exists.intro; refine ⟨fun _ => ?_, ?_⟩; (focus ( (go_at_call 24; first | exact call_ext2 (K1 _) | exact call_ext (K1 _)) )); exact rfl))); (focus (intro g1; go_big_quiet_op; first | exact rfl | (apply Exists.intro; refine ⟨fun _ => ?_, ?_⟩; (focus ( (go_at_call 24; first | exact call_ext2 (K1 _) | exact call_ext (K1 _)) )); exact rfl))))))
          (refine wpBoth_nil ?_; intro g1 g2; simp only [newPtr, World.size_alloc, World.size_setCell, size_ext, add_add_n, add_drew_n, Act.put, List.setIfInBounds_toArray, List.set_cons_zero, List.set_cons_succ])
          go_wp2
          all_goals
            go_roundw
            case rel => exact ⟨k + 1, 3, 0, (si + 1), true, cy, by omega, by go_num, rfl, by omega, by omega, by omega, by omega, by omega, by omega, by omega, by omega, ext_of (by (repeat' (first | with_reducible exact Below.refl _ _ | with_reducible assumption | with_reducible refine below_ext ?_ ?_ _ | with_reducible refine Below.alloc ?_ ?_ _ | with_reducible refine Below.drew ?_ | with_reducible exact Nat.le_refl _ | (simp only [World.size_alloc, World.size_setCell, World.size_drew, size_ext, add_add_n, add_drew_n]; omega) | (simp; omega))))⟩
            case measure => simp [intOf]; omega
        · by_cases ht : dw ≤ tm + 1
          · cases p
            · have hz1 : (2 : Int) ≠ 3 := by omega
              have K1 : ∀ w, _ := @out_at 0 0 0 0 0 3 dw ho 0 2 tm si nu cy d false false 3 0 (si + 1) nu cy 4 (si + 1) (by omega) ⟨t0, t1⟩ (by omega) (by omega) (.inr ⟨by omega, rfl⟩) (by simp [coreD, zero, hl, ht]; try omega)
              go_wp2
              refine wp_region_alloc 16 (d := _) (z := #[.int .i64 0, .int .i64 0, .int .i64 0, .bool false, .int .i64 0]) (T := 42) (by kernel_rfl) (by kernel_rfl) rfl rfl rfl (fun ρ w => by simp [go_sem]) rfl (fun _ _ d _ _ h => by cases d <;> exact h) ?_
              simp only [List.take_succ_cons, List.take_zero, List.drop_succ_cons, List.drop_zero]
              (repeat (first | (refine wpBoth_skip rfl ?_; simp only [Act.put, List.setIfInBounds_toArray, List.set_cons_zero, List.set_cons_succ]) | (refine' wpBoth_want _ rfl ?_ ?_ ?_; rotate_left 1; (focus (go_big_quiet_op; first | exact rfl | (apply Exists.intro; refine ⟨fun _ => ?_, ?_⟩; (focus ( (go_at_call 24; first | exact call_ext2 (K1 _) | exact call_ext (K1 _)) )); exact rfl))); (focus (intro g1; go_big_quiet_op; first | exact rfl | (apply Exists.intro; refine ⟨fun _ => ?_, ?_⟩; (focus ( (go_at_call 24; first | exact call_ext2 (K1 _) | exact call_ext (K1 _)) )); exact rfl))))))
              (refine wpBoth_nil ?_; intro g1 g2; simp only [newPtr, World.size_alloc, World.size_setCell, size_ext, add_add_n, add_drew_n, Act.put, List.setIfInBounds_toArray, List.set_cons_zero, List.set_cons_succ])
              go_wp2
              all_goals
                go_roundw
                case rel => exact ⟨k + 1, 3, 0, (si + 1), nu, cy, by omega, by go_num, rfl, by omega, by omega, by omega, by omega, by omega, by omega, by omega, by omega, ext_of (by (repeat' (first | with_reducible exact Below.refl _ _ | with_reducible assumption | with_reducible refine below_ext ?_ ?_ _ | with_reducible refine Below.alloc ?_ ?_ _ | with_reducible refine Below.drew ?_ | with_reducible exact Nat.le_refl _ | (simp only [World.size_alloc, World.size_setCell, World.size_drew, size_ext, add_add_n, add_drew_n]; omega) | (simp; omega))))⟩
                case measure => simp [intOf]; omega
            · have hz1 : (2 : Int) ≠ 3 := by omega
              have K1 : ∀ w, _ := @out_at 0 0 0 0 0 3 dw ho 0 2 tm si nu cy d true false 2 (mo tm) (si + 1) nu cy 0 (si + 1) (by omega) ⟨t0, t1⟩ (by omega) (by omega) (.inr ⟨by omega, rfl⟩) (by simp [coreD, zero, hl, ht]; try omega)
              go_wp2
              refine wp_region_alloc 16 (d := _) (z := #[.int .i64 0, .int .i64 0, .int .i64 0, .bool false, .int .i64 0]) (T := 42) (by kernel_rfl) (by kernel_rfl) rfl rfl rfl (fun ρ w => by simp [go_sem]) rfl (fun _ _ d _ _ h => by cases d <;> exact h) ?_
              simp only [List.take_succ_cons, List.take_zero, List.drop_succ_cons, List.drop_zero]
              (repeat (first | (refine wpBoth_skip rfl ?_; simp only [Act.put, List.setIfInBounds_toArray, List.set_cons_zero, List.set_cons_succ]) | (refine' wpBoth_want _ rfl ?_ ?_ ?_; rotate_left 1; (focus (go_big_quiet_op; first | exact rfl | (apply Exists.intro; refine ⟨fun _ => ?_, ?_⟩; (focus ( (go_at_call 24; first | exact call_ext2 (K1 _) | exact call_ext (K1 _)) )); exact rfl))); (focus (intro g1; go_big_quiet_op; first | exact rfl | (apply Exists.intro; refine ⟨fun _ => ?_, ?_⟩; (focus ( (go_at_call 24; first | exact call_ext2 (K1 _) | exact call_ext (K1 _)) )); exact rfl))))))
              (refine wpBoth_nil ?_; intro g1 g2; simp only [newPtr, World.size_alloc, World.size_setCell, size_ext, add_add_n, add_drew_n, Act.put, List.setIfInBounds_toArray, List.set_cons_zero, List.set_cons_succ])
              go_wp2
              all_goals
                go_roundw
                case rel => exact ⟨k + 1, 2, (mo tm), (si + 1), nu, cy, by omega, by go_num, rfl, by omega, by omega, by omega, by omega, by omega, by omega, by omega, by omega, ext_of (by (repeat' (first | with_reducible exact Below.refl _ _ | with_reducible assumption | with_reducible refine below_ext ?_ ?_ _ | with_reducible refine Below.alloc ?_ ?_ _ | with_reducible refine Below.drew ?_ | with_reducible exact Nat.le_refl _ | (simp only [World.size_alloc, World.size_setCell, World.size_drew, size_ext, add_add_n, add_drew_n]; omega) | (simp; omega))))⟩
                case measure => simp [intOf]; omega
          · have hz1 : (2 : Int) ≠ 3 := by omega
            have K1 : ∀ w, _ := @out_at 0 0 0 0 0 3 dw ho 0 2 tm si nu cy d p false 2 (mo tm) (si + 1) nu cy 0 (si + 1) (by omega) ⟨t0, t1⟩ (by omega) (by omega) (.inr ⟨by omega, rfl⟩) (by simp [coreD, zero, hl, ht]; try omega)
            go_wp2
            refine wp_region_alloc 16 (d := _) (z := #[.int .i64 0, .int .i64 0, .int .i64 0, .bool false, .int .i64 0]) (T := 42) (by kernel_rfl) (by kernel_rfl) rfl rfl rfl (fun ρ w => by simp [go_sem]) rfl (fun _ _ d _ _ h => by cases d <;> exact h) ?_
            simp only [List.take_succ_cons, List.take_zero, List.drop_succ_cons, List.drop_zero]
            (repeat (first | (refine wpBoth_skip rfl ?_; simp only [Act.put, List.setIfInBounds_toArray, List.set_cons_zero, List.set_cons_succ]) | (refine' wpBoth_want _ rfl ?_ ?_ ?_; rotate_left 1; (focus (go_big_quiet_op; first | exact rfl | (apply Exists.intro; refine ⟨fun _ => ?_, ?_⟩; (focus ( (go_at_call 24; first | exact call_ext2 (K1 _) | exact call_ext (K1 _)) )); exact rfl))); (focus (intro g1; go_big_quiet_op; first | exact rfl | (apply Exists.intro; refine ⟨fun _ => ?_, ?_⟩; (focus ( (go_at_call 24; first | exact call_ext2 (K1 _) | exact call_ext (K1 _)) )); exact rfl))))))
            (refine wpBoth_nil ?_; intro g1 g2; simp only [newPtr, World.size_alloc, World.size_setCell, size_ext, add_add_n, add_drew_n, Act.put, List.setIfInBounds_toArray, List.set_cons_zero, List.set_cons_succ])
            go_wp2
            all_goals
              go_roundw
              case rel => exact ⟨k + 1, 2, (mo tm), (si + 1), nu, cy, by omega, by go_num, rfl, by omega, by omega, by omega, by omega, by omega, by omega, by omega, by omega, ext_of (by (repeat' (first | with_reducible exact Below.refl _ _ | with_reducible assumption | with_reducible refine below_ext ?_ ?_ _ | with_reducible refine Below.alloc ?_ ?_ _ | with_reducible refine Below.drew ?_ | with_reducible exact Nat.le_refl _ | (simp only [World.size_alloc, World.size_setCell, World.size_drew, size_ext, add_add_n, add_drew_n]; omega) | (simp; omega))))⟩
              case measure => simp [intOf]; omega
      · have sp : 0 < si := by omega
        clear hs
        by_cases hd : d = 2
        · subst hd
          have K1 : ∀ w, _ := @out_at 0 0 0 0 0 3 dw ho 0 3 tm si nu cy 2 p false 0 0 0 false 0 0 (si + 1) (by omega) ⟨t0, t1⟩ (by omega) (by omega) (.inr ⟨by omega, rfl⟩) (by simp [coreD, zero, max]; try omega)
          go_wp2
          refine wp_region_alloc 16 (d := _) (z := #[.int .i64 0, .int .i64 0, .int .i64 0, .bool false, .int .i64 0]) (T := 42) (by kernel_rfl) (by kernel_rfl) rfl rfl rfl (fun ρ w => by simp [go_sem]) rfl (fun _ _ d _ _ h => by cases d <;> exact h) ?_
          simp only [List.take_succ_cons, List.take_zero, List.drop_succ_cons, List.drop_zero]
          (repeat (first | (refine wpBoth_skip rfl ?_; simp only [Act.put, List.setIfInBounds_toArray, List.set_cons_zero, List.set_cons_succ]) | (refine' wpBoth_want _ rfl ?_ ?_ ?_; rotate_left 1; (focus (go_big_quiet_op; first | exact rfl | (apply Exists.intro; refine ⟨fun _ => ?_, ?_⟩; (focus ( (go_at_call 24; first | exact call_ext2 (K1 _) | exact call_ext (K1 _)) )); exact rfl))); (focus (intro g1; go_big_quiet_op; first | exact rfl | (apply Exists.intro; refine ⟨fun _ => ?_, ?_⟩; (focus ( (go_at_call 24; first | exact call_ext2 (K1 _) | exact call_ext (K1 _)) )); exact rfl))))))
          (refine wpBoth_nil ?_; intro g1 g2; simp only [newPtr, World.size_alloc, World.size_setCell, size_ext, add_add_n, add_drew_n, Act.put, List.setIfInBounds_toArray, List.set_cons_zero, List.set_cons_succ])
          go_wp2_with ((go_at_call 23; refine (sane_any _).mono ?_; rintro e w' ⟨rfl, hb⟩; obtain ⟨g, rfl⟩ := ext_of hb; clear hb))
          all_goals go_ret
          all_goals exact ⟨rfl, by (repeat' (first | with_reducible exact Below.refl _ _ | with_reducible assumption | with_reducible refine below_ext ?_ ?_ _ | with_reducible refine Below.alloc ?_ ?_ _ | with_reducible refine Below.drew ?_ | with_reducible exact Nat.le_refl _ | (simp only [World.size_alloc, World.size_setCell, World.size_drew, size_ext, add_add_n, add_drew_n]; omega) | (simp; omega)))⟩
        · have hn : (d == 2) = false := by simpa using hd
          have hn2 : (d != 2) = true := by simpa using hd
          by_cases hl : ho < si + 1
          · cases nu
            · have hz1 : (2 : Int) ≠ 3 := by omega
              have K1 : ∀ w, _ := @out_at 0 0 0 0 0 3 dw ho 0 3 tm si false cy d p false 3 0 (si + 1) true cy 5 (si + 1) (by omega) ⟨t0, t1⟩ (by omega) (by omega) (.inr ⟨by omega, rfl⟩) (by simp [coreD, zero, hd, hl]; try omega)
              go_wp2
              refine wp_region_alloc 16 (d := _) (z := #[.int .i64 0, .int .i64 0, .int .i64 0, .bool false, .int .i64 0]) (T := 42) (by kernel_rfl) (by kernel_rfl) rfl rfl rfl (fun ρ w => by simp [go_sem]) rfl (fun _ _ d _ _ h => by cases d <;> exact h) ?_
              simp only [List.take_succ_cons, List.take_zero, List.drop_succ_cons, List.drop_zero]
              (repeat (first | (refine wpBoth_skip rfl ?_; simp only [Act.put, List.setIfInBounds_toArray, List.set_cons_zero, List.set_cons_succ]) | (refine' wpBoth_want _ rfl ?_ ?_ ?_; rotate_left 1; (focus (go_big_quiet_op; first | exact rfl | (apply Exists.intro; refine ⟨fun _ => ?_, ?_⟩; (focus ( (go_at_call 24; first | exact call_ext2 (K1 _) | exact call_ext (K1 _)) )); exact rfl))); (focus (intro g1; go_big_quiet_op; first | exact rfl | (apply Exists.intro; refine ⟨fun _ => ?_, ?_⟩; (focus ( (go_at_call 24; first | exact call_ext2 (K1 _) | exact call_ext (K1 _)) )); exact rfl))))))
              (refine wpBoth_nil ?_; intro g1 g2; simp only [newPtr, World.size_alloc, World.size_setCell, size_ext, add_add_n, add_drew_n, Act.put, List.setIfInBounds_toArray, List.set_cons_zero, List.set_cons_succ])
              go_wp2
              all_goals
                go_roundw
                case rel => exact ⟨k + 1, 3, 0, (si + 1), true, cy, by omega, by go_num, rfl, by omega, by omega, by omega, by omega, by omega, by omega, by omega, by omega, ext_of (by (repeat' (first | with_reducible exact Below.refl _ _ | with_reducible assumption | with_reducible refine below_ext ?_ ?_ _ | with_reducible refine Below.alloc ?_ ?_ _ | with_reducible refine Below.drew ?_ | with_reducible exact Nat.le_refl _ | (simp only [World.size_alloc, World.size_setCell, World.size_drew, size_ext, add_add_n, add_drew_n]; omega) | (simp; omega))))⟩
                case measure => simp [intOf]; omega
            · have hz1 : (2 : Int) ≠ 3 := by omega
              have K1 : ∀ w, _ := @out_at 0 0 0 0 0 3 dw ho 0 3 tm si true cy d p false 3 (mo tm) (si + 1) true cy 5 (si + 1) (by omega) ⟨t0, t1⟩ (by omega) (by omega) (.inr ⟨by omega, rfl⟩) (by simp [coreD, zero, hd, hl]; try omega)
              go_wp2
              refine wp_region_alloc 16 (d := _) (z := #[.int .i64 0, .int .i64 0, .int .i64 0, .bool false, .int .i64 0]) (T := 42) (by kernel_rfl) (by kernel_rfl) rfl rfl rfl (fun ρ w => by simp [go_sem]) rfl (fun _ _ d _ _ h => by cases d <;> exact h) ?_
              simp only [List.take_succ_cons, List.take_zero, List.drop_succ_cons, List.drop_zero]
              (repeat (first | (refine wpBoth_skip rfl ?_; simp only [Act.put, List.setIfInBounds_toArray, List.set_cons_zero, List.set_cons_succ]) | (refine' wpBoth_want _ rfl ?_ ?_ ?_; rotate_left 1; (focus (go_big_quiet_op; first | exact rfl | (apply Exists.intro; refine ⟨fun _ => ?_, ?_⟩; (focus ( (go_at_call 24; first | exact call_ext2 (K1 _) | exact call_ext (K1 _)) )); exact rfl))); (focus (intro g1; go_big_quiet_op; first | exact rfl | (apply Exists.intro; refine ⟨fun _ => ?_, ?_⟩; (focus ( (go_at_call 24; first | exact call_ext2 (K1 _) | exact call_ext (K1 _)) )); exact rfl))))))
              (refine wpBoth_nil ?_; intro g1 g2; simp only [newPtr, World.size_alloc, World.size_setCell, size_ext, add_add_n, add_drew_n, Act.put, List.setIfInBounds_toArray, List.set_cons_zero, List.set_cons_succ])
              go_wp2
              all_goals
                go_roundw
                case rel => exact ⟨k + 1, 3, (mo tm), (si + 1), true, cy, by omega, by go_num, rfl, by omega, by omega, by omega, by omega, by omega, by omega, by omega, by omega, ext_of (by (repeat' (first | with_reducible exact Below.refl _ _ | with_reducible assumption | with_reducible refine below_ext ?_ ?_ _ | with_reducible refine Below.alloc ?_ ?_ _ | with_reducible refine Below.drew ?_ | with_reducible exact Nat.le_refl _ | (simp only [World.size_alloc, World.size_setCell, World.size_drew, size_ext, add_add_n, add_drew_n]; omega) | (simp; omega))))⟩
                case measure => simp [intOf]; omega
          · cases p
            · have hz1 : (2 : Int) ≠ 3 := by omega
              have K1 : ∀ w, _ := @out_at 0 0 0 0 0 3 dw ho 0 3 tm si nu cy d false false 3 (mo tm) (si + 1) nu cy 4 (si + 1) (by omega) ⟨t0, t1⟩ (by omega) (by omega) (.inr ⟨by omega, rfl⟩) (by simp [coreD, zero, hd, hl]; try omega)
              go_wp2
              refine wp_region_alloc 16 (d := _) (z := #[.int .i64 0, .int .i64 0, .int .i64 0, .bool false, .int .i64 0]) (T := 42) (by kernel_rfl) (by kernel_rfl) rfl rfl rfl (fun ρ w => by simp [go_sem]) rfl (fun _ _ d _ _ h => by cases d <;> exact h) ?_
              simp only [List.take_succ_cons, List.take_zero, List.drop_succ_cons, List.drop_zero]
              (repeat (first | (refine wpBoth_skip rfl ?_; simp only [Act.put, List.setIfInBounds_toArray, List.set_cons_zero, List.set_cons_succ]) | (refine' wpBoth_want _ rfl ?_ ?_ ?_; rotate_left 1; (focus (go_big_quiet_op; first | exact rfl | (apply Exists.intro; refine ⟨fun _ => ?_, ?_⟩; (focus ( (go_at_call 24; first | exact call_ext2 (K1 _) | exact call_ext (K1 _)) )); exact rfl))); (focus (intro g1; go_big_quiet_op; first | exact rfl | (apply Exists.intro; refine ⟨fun _ => ?_, ?_⟩; (focus ( (go_at_call 24; first | exact call_ext2 (K1 _) | exact call_ext (K1 _)) )); exact rfl))))))
              (refine wpBoth_nil ?_; intro g1 g2; simp only [newPtr, World.size_alloc, World.size_setCell, size_ext, add_add_n, add_drew_n, Act.put, List.setIfInBounds_toArray, List.set_cons_zero, List.set_cons_succ])
              go_wp2
              all_goals
                go_roundw
                case rel => exact ⟨k + 1, 3, (mo tm), (si + 1), nu, cy, by omega, by go_num, rfl, by omega, by omega, by omega, by omega, by omega, by omega, by omega, by omega, ext_of (by (repeat' (first | with_reducible exact Below.refl _ _ | with_reducible assumption | with_reducible refine below_ext ?_ ?_ _ | with_reducible refine Below.alloc ?_ ?_ _ | with_reducible refine Below.drew ?_ | with_reducible exact Nat.le_refl _ | (simp only [World.size_alloc, World.size_setCell, World.size_drew, size_ext, add_add_n, add_drew_n]; omega) | (simp; omega))))⟩
                case measure => simp [intOf]; omega
            · have hz1 : (2 : Int) ≠ 3 := by omega
              have K1 : ∀ w, _ := @out_at 0 0 0 0 0 3 dw ho 0 3 tm si nu cy d true false 1 0 (si + 1) nu (cy + 1) 3 (si + 1) (by omega) ⟨t0, t1⟩ (by omega) (by omega) (.inr ⟨by omega, rfl⟩) (by simp [coreD, zero, hd, hl, mo, show min (cy + 1) 1000000 = cy + 1 by omega]; try omega)
              go_wp2
              refine wp_region_alloc 16 (d := _) (z := #[.int .i64 0, .int .i64 0, .int .i64 0, .bool false, .int .i64 0]) (T := 42) (by kernel_rfl) (by kernel_rfl) rfl rfl rfl (fun ρ w => by simp [go_sem]) rfl (fun _ _ d _ _ h => by cases d <;> exact h) ?_
              simp only [List.take_succ_cons, List.take_zero, List.drop_succ_cons, List.drop_zero]
              (repeat (first | (refine wpBoth_skip rfl ?_; simp only [Act.put, List.setIfInBounds_toArray, List.set_cons_zero, List.set_cons_succ]) | (refine' wpBoth_want _ rfl ?_ ?_ ?_; rotate_left 1; (focus (go_big_quiet_op; first | exact rfl | (apply Exists.intro; refine ⟨fun _ => ?_, ?_⟩; (focus ( (go_at_call 24; first | exact call_ext2 (K1 _) | exact call_ext (K1 _)) )); exact rfl))); (focus (intro g1; go_big_quiet_op; first | exact rfl | (apply Exists.intro; refine ⟨fun _ => ?_, ?_⟩; (focus ( (go_at_call 24; first | exact call_ext2 (K1 _) | exact call_ext (K1 _)) )); exact rfl))))))
              (refine wpBoth_nil ?_; intro g1 g2; simp only [newPtr, World.size_alloc, World.size_setCell, size_ext, add_add_n, add_drew_n, Act.put, List.setIfInBounds_toArray, List.set_cons_zero, List.set_cons_succ])
              go_wp2
              all_goals
                go_roundw
                case rel => exact ⟨k + 1, 1, 0, (si + 1), nu, (cy + 1), by omega, by go_num, rfl, by omega, by omega, by omega, by omega, by omega, by omega, by omega, by omega, ext_of (by (repeat' (first | with_reducible exact Below.refl _ _ | with_reducible assumption | with_reducible refine below_ext ?_ ?_ _ | with_reducible refine Below.alloc ?_ ?_ _ | with_reducible refine Below.drew ?_ | with_reducible exact Nat.le_refl _ | (simp only [World.size_alloc, World.size_setCell, World.size_drew, size_ext, add_add_n, add_drew_n]; omega) | (simp; omega))))⟩
                case measure => simp [intOf]; omega
    · go_wp2_with ((go_at_call 23; refine (sane_any _).mono ?_; rintro e w' ⟨rfl, hb⟩; obtain ⟨g, rfl⟩ := ext_of hb; clear hb))
      go_ret
      exact ⟨rfl, by (repeat' (first | with_reducible exact Below.refl _ _ | with_reducible assumption | with_reducible refine below_ext ?_ ?_ _ | with_reducible refine Below.alloc ?_ ?_ _ | with_reducible refine Below.drew ?_ | with_reducible exact Nat.le_refl _ | (simp only [World.size_alloc, World.size_setCell, World.size_drew, size_ext, add_add_n, add_drew_n]; omega) | (simp; omega)))⟩

theorem nudges_walk (x y : Int) (v : Value) (w : World) (w0 : (Lit.int .u8 x).wf = true) (w1 : (Lit.int .u8 y).wf = true) (hv : IsSlice w 3 E_T46 v) :
    Calls Try.prog 7 #[.agg #[.int .u8 x, .int .u8 y], v] w fun e w' => e = .returned (.bool true) ∧ Below w.heap.size w w' := by
  have bx := bounds_u8 w0
  have bY := bounds_u8 w1
  clear w0 w1
  have empty : ∀ a cap, Calls Try.prog 7 #[.agg #[.int .u8 x, .int .u8 y], .slice a 0 cap] w fun e w' => e = .returned (.bool true) ∧ Below w.heap.size w w' := by
    intro a cap
    have S0 := fun dw ho => @step_at 0 0 0 0 0 3 dw ho 0 0 0 0 false 0 2 false true (Value.tuple #[.agg #[.int .i64 1, .int .i64 0, .int .i64 0, .bool false, .int .i64 0], .int .i64 3]) (by rw [stepD, if_neg (by simp)]; rfl)
    go_enter Try.func7, Try.ntmps7
    go_wp2_with ((go_at_call 24; refine (S0 _ _ _).mono ?_; rintro e w' ⟨rfl, hb⟩; obtain ⟨g, rfl⟩ := ext_of hb; clear hb))
    refine wp_loop_rounds 1 ?_
    rw [rounds_succ]
    go_wp2_with ((go_at_call 23; refine (sane_any _).mono ?_; rintro e w' ⟨rfl, hb⟩; obtain ⟨g, rfl⟩ := ext_of hb; clear hb))
    go_ret
    exact ⟨rfl, by (repeat' (first | with_reducible exact Below.refl _ _ | with_reducible assumption | with_reducible refine below_ext ?_ ?_ _ | with_reducible refine Below.alloc ?_ ?_ _ | with_reducible refine Below.drew ?_ | with_reducible exact Nat.le_refl _ | (simp only [World.size_alloc, World.size_setCell, World.size_drew, size_ext, add_add_n, add_drew_n]; omega) | (simp; omega)))⟩
  rcases hv with rfl | ⟨a, len, cap, rfl, hl, hm, hc⟩
  · exact empty _ _
  · by_cases h3 : len ≤ 300
    · by_cases h0 : len = 0
      · subst h0; exact empty _ _
      · obtain ⟨cs0, _, _, hs, hb, _⟩ := hc 0 (by omega)
        obtain ⟨b, off, sp⟩ := a
        simp only at hs hb
        subst hs
        refine nudges_row x y b off len cap w bx bY hl h3 hb fun i hi => ?_
        obtain ⟨cs, _, he, _, _, hcell⟩ := hc i hi
        obtain ⟨d, p, q, rfl, _⟩ := he
        exact ⟨d, p, q, by simpa using hcell 0 (by omega), by simpa [Nat.add_assoc] using hcell 1 (by omega), by simpa [Nat.add_assoc] using hcell 2 (by omega)⟩
    · unfold maxLen at hm
      have h3' : (300 : Int) < len := by omega
      have hm' : (len : Int) ≤ 9223372036854775807 := by omega
      clear h3
      go_enter Try.func7, Try.ntmps7
      go_wp2_with ((go_at_call 23; refine (sane_any _).mono ?_; rintro e w' ⟨rfl, hb⟩; obtain ⟨g, rfl⟩ := ext_of hb; clear hb))
      go_ret
      exact ⟨rfl, by (repeat' (first | with_reducible exact Below.refl _ _ | with_reducible assumption | with_reducible refine below_ext ?_ ?_ _ | with_reducible refine Below.alloc ?_ ?_ _ | with_reducible refine Below.drew ?_ | with_reducible exact Nat.le_refl _ | (simp only [World.size_alloc, World.size_setCell, World.size_drew, size_ext, add_add_n, add_drew_n]; omega) | (simp; omega)))⟩
end Go.Proofs.Ytkanaakceokifaa.Do
