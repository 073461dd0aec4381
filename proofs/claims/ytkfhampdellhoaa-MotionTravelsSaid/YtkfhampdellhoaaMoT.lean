/- MotionTravels: the walk of the law. -/
import Derived.Test.YtkfhampdellhoaaMoB
import Derived.Test.YtkfhampdellhoaaOpen
namespace Go.Proofs.Ytkfhampdellhoaa.Mo
open Go.RowKit Go.Proofs.Ytkfhampdellhoaa
set_option linter.unusedSimpArgs false
set_option linter.unusedVariables false

/-- The first tick of a step, or that there is none. -/
theorem go_at {fl f want : Int} (h1 : 2 ≤ fl) (h2 : fl ≤ 32) (h3 : 0 ≤ f) (h4 : f < fl) (hw : want = 1 ∨ want = 2) (dr : Int) (bl : Bool) (w : World) :
    Calls Try.prog 10 #[.int .i64 fl, .agg #[.int .i64 0, .int .i64 0, .int .i64 0], .agg #[.int .i64 f, .bool true, .int .i64 dr, .bool bl], .int .i64 want] w fun e w' => e = .returned (.tuple #[.agg #[.int .i64 (if okB fl f want then want else 0), .int .i64 0, .int .i64 (if okB fl f want then f else 0)], .int .i64 (if okB fl f want then want else 0), .bool false]) ∧ Below w.heap.size w w' := by
  refine step_at ?_ dr bl w
  have hs : isSt fl 0 0 0 = true := by simp [isSt]; omega
  have h0 : okB fl 0 0 = false := by simp [okB]
  rw [stepV, if_pos ⟨hs, h3, h4⟩, if_neg (by rw [h0]; simp), if_neg (by rw [h0]; simp)]
  cases okB fl f want <;> simp

/-- A tick on the way. -/
theorem way_at {fl f c t : Int} (h1 : 2 ≤ fl) (h2 : fl ≤ 32) (h3 : 0 ≤ f) (h4 : f < fl) (hok : okB fl f c = true) (ht0 : 0 ≤ t) (ht : t < 1000000) (lv : Bool) (w : World) :
    Calls Try.prog 10 #[.int .i64 fl, .agg #[.int .i64 c, .int .i64 t, .int .i64 f], .agg #[.int .i64 f, .bool lv, .int .i64 0, .bool false], .int .i64 0] w fun e w' => e = .returned (.tuple #[.agg #[.int .i64 c, .int .i64 (t + 1), .int .i64 f], .int .i64 c, .bool false]) ∧ Below w.heap.size w w' := by
  refine step_at ?_ 0 false w
  have hk := (okB_eq fl f c h1 h2 h3 h4).1 hok
  have hs : isSt fl c t f = true := by simp [isSt]; omega
  have hne : f ≠ toB f c := by
    rcases hk with ⟨rfl, _⟩ | ⟨rfl, _⟩
    · rw [toB, if_pos rfl, IntWalk.wrap64_in _ ⟨by omega, by omega⟩]; omega
    · rw [toB, if_neg (by omega), if_pos rfl, IntWalk.wrap64_in _ ⟨by omega, by omega⟩]; omega
  rw [stepV, if_pos ⟨hs, h3, h4⟩, if_neg (fun h => hne h.2.2), if_pos (.inl hok), show min (t + 1) 1000000 = t + 1 by omega]

/-- The last tick of a step. -/
theorem end_at {fl f c t to : Int} (h1 : 2 ≤ fl) (h2 : fl ≤ 32) (h3 : 0 ≤ f) (h4 : f < fl) (hok : okB fl f c = true) (ht0 : 0 ≤ t) (ht : t < 1000000) (hto : to = toB f c) (w : World) :
    Calls Try.prog 10 #[.int .i64 fl, .agg #[.int .i64 c, .int .i64 t, .int .i64 f], .agg #[.int .i64 to, .bool true, .int .i64 0, .bool false], .int .i64 0] w fun e w' => e = .returned (.tuple #[.agg #[.int .i64 0, .int .i64 0, .int .i64 0], .int .i64 0, .bool true]) ∧ Below w.heap.size w w' := by
  refine step_at ?_ 0 false w
  have hk := (okB_eq fl f c h1 h2 h3 h4).1 hok
  have hs : isSt fl c t f = true := by simp [isSt]; omega
  have hb : 0 ≤ to ∧ to < fl := by
    have := hok
    simp only [okB, decide_eq_true_eq] at this
    rw [hto]; exact this.2
  rw [stepV, if_pos ⟨hs, hb.1, hb.2⟩, if_pos ⟨hok, rfl, hto⟩]

set_option maxRecDepth 100000 in
set_option maxHeartbeats 4000000 in
theorem travels_row (x y z : Int) (b off len cap : Nat) (w : World) (bx : 0 ≤ x ∧ x ≤ 255) (bY : 0 ≤ y ∧ y ≤ 255) (bz : 0 ≤ z ∧ z ≤ 255) (hl : len ≤ cap) (hm : len ≤ 9223372036854775807) (hb : b < w.heap.size)
    (hc : ∀ i, i < len → ∃ u : Int, 0 ≤ u ∧ u ≤ 255 ∧ w.cell? ⟨b, off + i, none⟩ = some (.int .u8 u)) :
    Calls Try.prog 3 #[.agg #[.int .u8 x, .int .u8 y, .int .u8 z], .slice (some ⟨b, off, none⟩) len cap] w fun e w' => e = .returned (.bool true) ∧ Below w.heap.size w w' := by
  have hm' : (len : Int) ≤ 9223372036854775807 := by omega
  have HC := Lib.hid hc
  clear hc hm
  have hfl : (2 : Int) + x % 10 ≠ 0 := by omega
  go_enter Try.func3, Try.ntmps3
  go_wp2
  have q1 : 0 ≤ y % (2 + x % 10) ∧ y % (2 + x % 10) < 2 + x % 10 := ⟨Int.emod_nonneg _ hfl, Int.emod_lt_of_pos _ (by omega)⟩
  generalize y % (2 + x % 10) = F0 at *
  have q2 : 2 ≤ 2 + x % 10 ∧ 2 + x % 10 ≤ 11 := by omega
  generalize 2 + x % 10 = FL at *
  have q3 : 1 ≤ 1 + z % 9 ∧ 1 + z % 9 ≤ 9 := by omega
  generalize 1 + z % 9 = C at *
  obtain ⟨f0, f1⟩ := q1
  obtain ⟨l0, l1⟩ := q2
  obtain ⟨c0, c1⟩ := q3
  clear hfl
  go_loopw [6, 8] (fun fv i wr => ∃ (k : Nat) (f : Int), k ≤ len ∧ k ≤ 60 ∧ 0 ≤ f ∧ f < FL ∧ i = .int .i64 (k : Int) ∧ fv = .int .i64 f ∧ ∃ g, wr = ext ((w.alloc (.cells #[.int .u8 x, .int .u8 y, .int .u8 z] 22)).alloc (.cells #[.int .i64 0, .int .i64 0, .int .i64 0, .int .i64 0, .int .i64 C, .int .i64 0, .int .i64 0, .int .i64 0, .int .i64 0] 25)) g) (fun _ i _ => 60 - (intOf i).toNat)
  case atStart => exact ⟨0, F0, by omega, by omega, f0, f1, rfl, rfl, _, same_is_ext _⟩
  case round =>
    obtain ⟨k, f, hk, hk6, hf0, hf1, rfl, rfl, gl, rfl⟩ := hrel
    by_cases hlt : k < len
    · by_cases h60 : k < 60
      · obtain ⟨u, u0, u1, hu⟩ := HC.out k hlt
        have hi0 : (0 : Int) ≤ k := by omega
        have hi1 : (k : Int) < len := by omega
        have hi2 : (k : Int) < 60 := by omega
        obtain ⟨wt, hwt, hw2⟩ : ∃ wt, 1 + u % 2 = wt ∧ (wt = 1 ∨ wt = 2) := ⟨_, rfl, by omega⟩
        have G1 := @go_at FL f (1 + u % 2) l0 (by omega) hf0 hf1 (by omega)
        cases hok : okB FL f (1 + u % 2)
        · rw [hok] at G1
          simp only [Bool.false_eq_true, if_false] at G1
          have ht : (u % 2 = 0 ∧ f = FL - 1) ∨ (u % 2 = 1 ∧ f = 0) := by
            have := okB_eq FL f (1 + u % 2) l0 (by omega) hf0 hf1
            rw [hok] at this
            simp at this
            omega
          rcases ht with ⟨t3, t2⟩ | ⟨t3, t2⟩
          · rw [t3] at G1
            have t4 : (f == FL - 1) = true := by simpa using t2
            clear hok hwt t2
            go_wp2_with ((go_at_call 10; refine (G1 _ _ _).mono ?_; rintro e w' ⟨rfl, hb⟩; obtain ⟨g, rfl⟩ := ext_of hb; clear hb))
            go_roundw
            case rel => exact ⟨k + 1, f, by omega, by omega, hf0, hf1, by go_num, rfl, ext_of (by (repeat' (first | with_reducible exact Below.refl _ _ | with_reducible assumption | with_reducible refine below_ext ?_ ?_ _ | with_reducible refine Below.alloc ?_ ?_ _ | with_reducible refine Below.drew ?_ | with_reducible exact Nat.le_refl _ | (simp only [World.size_alloc, World.size_setCell, World.size_drew, size_ext, add_add_n, add_drew_n]; omega) | (simp; omega))))⟩
            case measure => simp [intOf]; omega
          · rw [t3] at G1
            subst t2
            clear hok hwt
            go_wp2_with ((go_at_call 10; refine (G1 _ _ _).mono ?_; rintro e w' ⟨rfl, hb⟩; obtain ⟨g, rfl⟩ := ext_of hb; clear hb))
            go_roundw
            case rel => exact ⟨k + 1, 0, by omega, by omega, hf0, hf1, by go_num, rfl, ext_of (by (repeat' (first | with_reducible exact Below.refl _ _ | with_reducible assumption | with_reducible refine below_ext ?_ ?_ _ | with_reducible refine Below.alloc ?_ ?_ _ | with_reducible refine Below.drew ?_ | with_reducible exact Nat.le_refl _ | (simp only [World.size_alloc, World.size_setCell, World.size_drew, size_ext, add_add_n, add_drew_n]; omega) | (simp; omega))))⟩
            case measure => simp [intOf]; omega
        · rw [hok] at G1
          simp only [if_true] at G1
          have ht : (u % 2 = 0 ∧ f + 1 < FL) ∨ (u % 2 = 1 ∧ 1 ≤ f) := by
            have := okB_eq FL f (1 + u % 2) l0 (by omega) hf0 hf1
            rw [hok] at this
            simp at this
            omega
          rcases ht with ⟨t3, t2⟩ | ⟨t3, t2⟩
          · rw [t3] at G1 hok
            have hto : f + 1 = toB f 1 := by rw [toB, if_pos rfl]; rw [IntWalk.wrap64_in _ ⟨by omega, by omega⟩]
            have Hto := Lib.hid hto
            clear hto hwt
            have t4 : (f == FL - 1) = false := by rw [beq_eq_false_iff_ne]; omega
            go_wp2_with ((go_at_call 10; refine (G1 _ _ _).mono ?_; rintro e w' ⟨rfl, hb⟩; obtain ⟨g, rfl⟩ := ext_of hb; clear hb))
            (refine wp_region_ext (by kernel_rfl) (by kernel_rfl) ?_; (repeat (go_big_quiet_step ( fail ))); (with_reducible refine wpQuiet_nil ?_); intro _ hw'; obtain ⟨gq, rfl⟩ := hw'; try simp only [ext_ext])
            go_wp2
            have nb : 1 ≤ wrap64 (1 + u / 2 % C) ∧ wrap64 (1 + u / 2 % C) ≤ 9 := by
              have e1 : 0 ≤ u / 2 % C ∧ u / 2 % C < C := ⟨Int.emod_nonneg _ (by omega), Int.emod_lt_of_pos _ (by omega)⟩
              rw [IntWalk.wrap64_in _ ⟨by omega, by omega⟩]; omega
            have nc : wrap64 (1 + u / 2 % C) ≤ C := by
              have e1 : 0 ≤ u / 2 % C ∧ u / 2 % C < C := ⟨Int.emod_nonneg _ (by omega), Int.emod_lt_of_pos _ (by omega)⟩
              rw [IntWalk.wrap64_in _ ⟨by omega, by omega⟩]; omega
            generalize wrap64 (1 + u / 2 % C) = N at *
            obtain ⟨n1, n9⟩ := nb
            go_loopw [11, 12, 15] (fun v11 v12 v15 wr => ∃ j : Int, 1 ≤ j ∧ j ≤ N + 1 ∧ v15 = .int .i64 j ∧ ((j ≤ N ∧ v11 = .int .i64 1 ∧ v12 = .bool false ∧ ∃ g', wr = ext ((ext ((w.alloc (.cells #[.int .u8 x, .int .u8 y, .int .u8 z] 22)).alloc (.cells #[.int .i64 0, .int .i64 0, .int .i64 0, .int .i64 0, .int .i64 C, .int .i64 0, .int .i64 0, .int .i64 0, .int .i64 0] 25)) (gl.add g)).alloc (.cells #[.int .i64 1, .int .i64 (j - 1), .int .i64 f] 27)) g') ∨ (j = N + 1 ∧ v11 = .int .i64 0 ∧ v12 = .bool true ∧ ∃ g', wr = ext ((ext ((w.alloc (.cells #[.int .u8 x, .int .u8 y, .int .u8 z] 22)).alloc (.cells #[.int .i64 0, .int .i64 0, .int .i64 0, .int .i64 0, .int .i64 C, .int .i64 0, .int .i64 0, .int .i64 0, .int .i64 0] 25)) (gl.add g)).alloc (.cells #[.int .i64 0, .int .i64 0, .int .i64 0] 27)) g'))) (fun _ _ i _ => (10 - intOf i).toNat)
            case atStart => exact ⟨1, by omega, by omega, rfl, .inl ⟨by omega, rfl, rfl, _, rfl⟩⟩
            case round =>
              obtain ⟨j, j1, j2, rfl, hj⟩ := hrel
              rcases hj with ⟨j3, rfl, rfl, g', rfl⟩ | ⟨j3, rfl, rfl, g', rfl⟩
              · by_cases hjn : j < N
                · have W1 := @way_at FL f 1 (j - 1) l0 (by omega) hf0 hf1 hok (by omega) (by omega)
                  rw [show j - 1 + 1 = j by omega] at W1
                  have hne : (j == N) = false := by rw [beq_eq_false_iff_ne]; omega
                  have hlate : decide (C < j) = false := by simp; omega
                  go_wp2_with (first | (go_at_call 10; refine (W1 _ _).mono ?_; rintro e w' ⟨rfl, hb⟩; obtain ⟨g, rfl⟩ := ext_of hb; clear hb) | (go_at_call 11; refine (late_any _ _ _ _ _ _ _ _ _ _ _ _ _).mono ?_; rintro e w' ⟨rfl, hb⟩; obtain ⟨g, rfl⟩ := ext_of hb; clear hb))
                  go_roundw
                  case rel => exact ⟨j + 1, by omega, by omega, rfl, .inl ⟨by omega, rfl, rfl, by rw [show j + 1 - 1 = j by omega]; exact ext_of (by (repeat' (first | with_reducible exact Below.refl _ _ | with_reducible assumption | with_reducible refine below_ext ?_ ?_ _ | with_reducible refine Below.alloc ?_ ?_ _ | with_reducible refine Below.drew ?_ | with_reducible exact Nat.le_refl _ | (simp only [World.size_alloc, World.size_setCell, World.size_drew, size_ext, add_add_n, add_drew_n]; omega) | (simp; omega))))⟩⟩
                  case measure => simp [intOf]; omega
                · have W2 := @end_at FL f 1 (j - 1) (f + 1) l0 (by omega) hf0 hf1 hok (by omega) (by omega) Hto.out
                  have hne : (j == N) = true := by rw [beq_iff_eq]; omega
                  go_wp2_with (first | (go_at_call 10; refine (W2 _).mono ?_; rintro e w' ⟨rfl, hb⟩; obtain ⟨g, rfl⟩ := ext_of hb; clear hb) | (go_at_call 11; refine (late_any _ _ _ _ _ _ _ _ _ _ _ _ _).mono ?_; rintro e w' ⟨rfl, hb⟩; obtain ⟨g, rfl⟩ := ext_of hb; clear hb))
                  go_roundw
                  case rel => exact ⟨j + 1, by omega, by omega, rfl, .inr ⟨by omega, rfl, rfl, ext_of (by (repeat' (first | with_reducible exact Below.refl _ _ | with_reducible assumption | with_reducible refine below_ext ?_ ?_ _ | with_reducible refine Below.alloc ?_ ?_ _ | with_reducible refine Below.drew ?_ | with_reducible exact Nat.le_refl _ | (simp only [World.size_alloc, World.size_setCell, World.size_drew, size_ext, add_add_n, add_drew_n]; omega) | (simp; omega))))⟩⟩
                  case measure => simp [intOf]; omega
              · have hjn : ¬ j ≤ N := by omega
                go_wp2
                go_roundw
                case rel => exact ⟨k + 1, f + 1, by omega, by omega, by omega, by omega, by go_num, rfl, ext_of (by (repeat' (first | with_reducible exact Below.refl _ _ | with_reducible assumption | with_reducible refine below_ext ?_ ?_ _ | with_reducible refine Below.alloc ?_ ?_ _ | with_reducible refine Below.drew ?_ | with_reducible exact Nat.le_refl _ | (simp only [World.size_alloc, World.size_setCell, World.size_drew, size_ext, add_add_n, add_drew_n]; omega) | (simp; omega))))⟩
                case measure => simp [intOf]; omega
          · rw [t3] at G1 hok
            have hto : f - 1 = toB f 2 := by rw [toB, if_neg (by omega), if_pos rfl]; rw [IntWalk.wrap64_in _ ⟨by omega, by omega⟩]; omega
            have Hto := Lib.hid hto
            clear hto hwt
            have t4 : (f == 0) = false := by rw [beq_eq_false_iff_ne]; omega
            go_wp2_with ((go_at_call 10; refine (G1 _ _ _).mono ?_; rintro e w' ⟨rfl, hb⟩; obtain ⟨g, rfl⟩ := ext_of hb; clear hb))
            (refine wp_region_ext (by kernel_rfl) (by kernel_rfl) ?_; (repeat (go_big_quiet_step ( fail ))); (with_reducible refine wpQuiet_nil ?_); intro _ hw'; obtain ⟨gq, rfl⟩ := hw'; try simp only [ext_ext])
            go_wp2
            have nb : 1 ≤ wrap64 (1 + u / 2 % C) ∧ wrap64 (1 + u / 2 % C) ≤ 9 := by
              have e1 : 0 ≤ u / 2 % C ∧ u / 2 % C < C := ⟨Int.emod_nonneg _ (by omega), Int.emod_lt_of_pos _ (by omega)⟩
              rw [IntWalk.wrap64_in _ ⟨by omega, by omega⟩]; omega
            have nc : wrap64 (1 + u / 2 % C) ≤ C := by
              have e1 : 0 ≤ u / 2 % C ∧ u / 2 % C < C := ⟨Int.emod_nonneg _ (by omega), Int.emod_lt_of_pos _ (by omega)⟩
              rw [IntWalk.wrap64_in _ ⟨by omega, by omega⟩]; omega
            generalize wrap64 (1 + u / 2 % C) = N at *
            obtain ⟨n1, n9⟩ := nb
            go_loopw [11, 12, 15] (fun v11 v12 v15 wr => ∃ j : Int, 1 ≤ j ∧ j ≤ N + 1 ∧ v15 = .int .i64 j ∧ ((j ≤ N ∧ v11 = .int .i64 2 ∧ v12 = .bool false ∧ ∃ g', wr = ext ((ext ((w.alloc (.cells #[.int .u8 x, .int .u8 y, .int .u8 z] 22)).alloc (.cells #[.int .i64 0, .int .i64 0, .int .i64 0, .int .i64 0, .int .i64 C, .int .i64 0, .int .i64 0, .int .i64 0, .int .i64 0] 25)) (gl.add g)).alloc (.cells #[.int .i64 2, .int .i64 (j - 1), .int .i64 f] 27)) g') ∨ (j = N + 1 ∧ v11 = .int .i64 0 ∧ v12 = .bool true ∧ ∃ g', wr = ext ((ext ((w.alloc (.cells #[.int .u8 x, .int .u8 y, .int .u8 z] 22)).alloc (.cells #[.int .i64 0, .int .i64 0, .int .i64 0, .int .i64 0, .int .i64 C, .int .i64 0, .int .i64 0, .int .i64 0, .int .i64 0] 25)) (gl.add g)).alloc (.cells #[.int .i64 0, .int .i64 0, .int .i64 0] 27)) g'))) (fun _ _ i _ => (10 - intOf i).toNat)
            case atStart => exact ⟨1, by omega, by omega, rfl, .inl ⟨by omega, rfl, rfl, _, rfl⟩⟩
            case round =>
              obtain ⟨j, j1, j2, rfl, hj⟩ := hrel
              rcases hj with ⟨j3, rfl, rfl, g', rfl⟩ | ⟨j3, rfl, rfl, g', rfl⟩
              · by_cases hjn : j < N
                · have W1 := @way_at FL f 2 (j - 1) l0 (by omega) hf0 hf1 hok (by omega) (by omega)
                  rw [show j - 1 + 1 = j by omega] at W1
                  have hne : (j == N) = false := by rw [beq_eq_false_iff_ne]; omega
                  have hlate : decide (C < j) = false := by simp; omega
                  go_wp2_with (first | (go_at_call 10; refine (W1 _ _).mono ?_; rintro e w' ⟨rfl, hb⟩; obtain ⟨g, rfl⟩ := ext_of hb; clear hb) | (go_at_call 11; refine (late_any _ _ _ _ _ _ _ _ _ _ _ _ _).mono ?_; rintro e w' ⟨rfl, hb⟩; obtain ⟨g, rfl⟩ := ext_of hb; clear hb))
                  go_roundw
                  case rel => exact ⟨j + 1, by omega, by omega, rfl, .inl ⟨by omega, rfl, rfl, by rw [show j + 1 - 1 = j by omega]; exact ext_of (by (repeat' (first | with_reducible exact Below.refl _ _ | with_reducible assumption | with_reducible refine below_ext ?_ ?_ _ | with_reducible refine Below.alloc ?_ ?_ _ | with_reducible refine Below.drew ?_ | with_reducible exact Nat.le_refl _ | (simp only [World.size_alloc, World.size_setCell, World.size_drew, size_ext, add_add_n, add_drew_n]; omega) | (simp; omega))))⟩⟩
                  case measure => simp [intOf]; omega
                · have W2 := @end_at FL f 2 (j - 1) (f - 1) l0 (by omega) hf0 hf1 hok (by omega) (by omega) Hto.out
                  have hne : (j == N) = true := by rw [beq_iff_eq]; omega
                  go_wp2_with (first | (go_at_call 10; refine (W2 _).mono ?_; rintro e w' ⟨rfl, hb⟩; obtain ⟨g, rfl⟩ := ext_of hb; clear hb) | (go_at_call 11; refine (late_any _ _ _ _ _ _ _ _ _ _ _ _ _).mono ?_; rintro e w' ⟨rfl, hb⟩; obtain ⟨g, rfl⟩ := ext_of hb; clear hb))
                  go_roundw
                  case rel => exact ⟨j + 1, by omega, by omega, rfl, .inr ⟨by omega, rfl, rfl, ext_of (by (repeat' (first | with_reducible exact Below.refl _ _ | with_reducible assumption | with_reducible refine below_ext ?_ ?_ _ | with_reducible refine Below.alloc ?_ ?_ _ | with_reducible refine Below.drew ?_ | with_reducible exact Nat.le_refl _ | (simp only [World.size_alloc, World.size_setCell, World.size_drew, size_ext, add_add_n, add_drew_n]; omega) | (simp; omega))))⟩⟩
                  case measure => simp [intOf]; omega
              · have hjn : ¬ j ≤ N := by omega
                go_wp2
                go_roundw
                case rel => exact ⟨k + 1, f - 1, by omega, by omega, by omega, by omega, by go_num, rfl, ext_of (by (repeat' (first | with_reducible exact Below.refl _ _ | with_reducible assumption | with_reducible refine below_ext ?_ ?_ _ | with_reducible refine Below.alloc ?_ ?_ _ | with_reducible refine Below.drew ?_ | with_reducible exact Nat.le_refl _ | (simp only [World.size_alloc, World.size_setCell, World.size_drew, size_ext, add_add_n, add_drew_n]; omega) | (simp; omega))))⟩
                case measure => simp [intOf]; omega
      · go_wp2_with ((go_at_call 12; refine (sane_any _).mono ?_; rintro e w' ⟨rfl, hb⟩; obtain ⟨g, rfl⟩ := ext_of hb; clear hb))
        go_ret
        exact ⟨rfl, by (repeat' (first | with_reducible exact Below.refl _ _ | with_reducible assumption | with_reducible refine below_ext ?_ ?_ _ | with_reducible refine Below.alloc ?_ ?_ _ | with_reducible refine Below.drew ?_ | with_reducible exact Nat.le_refl _ | (simp only [World.size_alloc, World.size_setCell, World.size_drew, size_ext, add_add_n, add_drew_n]; omega) | (simp; omega)))⟩
    · go_wp2_with ((go_at_call 12; refine (sane_any _).mono ?_; rintro e w' ⟨rfl, hb⟩; obtain ⟨g, rfl⟩ := ext_of hb; clear hb))
      go_ret
      exact ⟨rfl, by (repeat' (first | with_reducible exact Below.refl _ _ | with_reducible assumption | with_reducible refine below_ext ?_ ?_ _ | with_reducible refine Below.alloc ?_ ?_ _ | with_reducible refine Below.drew ?_ | with_reducible exact Nat.le_refl _ | (simp only [World.size_alloc, World.size_setCell, World.size_drew, size_ext, add_add_n, add_drew_n]; omega) | (simp; omega)))⟩

theorem travels_walk (x y z : Int) (v : Value) (w : World) (w0 : (Lit.int .u8 x).wf = true) (w1 : (Lit.int .u8 y).wf = true) (w2 : (Lit.int .u8 z).wf = true) (hv : IsSlice w 1 E_T5 v) :
    Calls Try.prog 3 #[.agg #[.int .u8 x, .int .u8 y, .int .u8 z], v] w fun e w' => e = .returned (.bool true) ∧ Below w.heap.size w w' := by
  have bx := bounds_u8 w0
  have bY := bounds_u8 w1
  have bz := bounds_u8 w2
  clear w0 w1 w2
  have empty : ∀ a cap, Calls Try.prog 3 #[.agg #[.int .u8 x, .int .u8 y, .int .u8 z], .slice a 0 cap] w fun e w' => e = .returned (.bool true) ∧ Below w.heap.size w w' := by
    intro a cap
    have hfl : (2 : Int) + x % 10 ≠ 0 := by omega
    go_enter Try.func3, Try.ntmps3
    go_wp2
    refine wp_loop_rounds 1 ?_
    rw [rounds_succ]
    go_wp2_with ((go_at_call 12; refine (sane_any _).mono ?_; rintro e w' ⟨rfl, hb⟩; obtain ⟨g, rfl⟩ := ext_of hb; clear hb))
    go_ret
    exact ⟨rfl, by (repeat' (first | with_reducible exact Below.refl _ _ | with_reducible assumption | with_reducible refine below_ext ?_ ?_ _ | with_reducible refine Below.alloc ?_ ?_ _ | with_reducible refine Below.drew ?_ | with_reducible exact Nat.le_refl _ | (simp only [World.size_alloc, World.size_setCell, World.size_drew, size_ext, add_add_n, add_drew_n]; omega) | (simp; omega)))⟩
  rcases hv with rfl | ⟨a, len, cap, rfl, hl, hm, hc⟩
  · exact empty _ _
  · by_cases h0 : len = 0
    · subst h0; exact empty _ _
    · obtain ⟨cs0, _, _, hs, hb, _⟩ := hc 0 (by omega)
      obtain ⟨b, off, sp⟩ := a
      simp only at hs hb
      subst hs
      unfold maxLen at hm
      refine travels_row x y z b off len cap w bx bY bz hl (by omega) hb fun i hi => ?_
      obtain ⟨cs, _, he, _, _, hcell⟩ := hc i hi
      obtain ⟨u, rfl, hw⟩ := he
      have := bounds_u8 hw
      exact ⟨u, this.1, this.2, by simpa using hcell 0 (by omega)⟩
end Go.Proofs.Ytkfhampdellhoaa.Mo
