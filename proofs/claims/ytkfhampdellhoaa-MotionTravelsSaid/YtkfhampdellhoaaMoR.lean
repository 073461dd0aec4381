/- Contracts of the reference of package motion (layer 13), and that both agree. -/
import Derived.Test.YtkfhampdellhoaaMo
import Derived.Test.YtkfhampdellhoaaRg
namespace Go.Proofs.Ytkfhampdellhoaa.Mo
open Go.RowKit Go.Proofs.Ytkfhampdellhoaa
set_option linter.unusedSimpArgs false
set_option linter.unusedVariables false

theorem rfloor_any (fl n : Int) (w : World) :
    Calls Try.prog 30 #[.int .i64 fl, .int .i64 n] w fun e w' => e = .returned (.bool (decide (0 ≤ n) && decide (n < fl))) ∧ w = w' := by
  go_enter Try.func30, Try.ntmps30
  go_wp2
  all_goals (go_ret; refine ⟨ret_bool ?_, rfl⟩; simp [*]; try omega)

theorem rfloor_eq {fl n : Int} {b : Bool} (h : (decide (0 ≤ n) && decide (n < fl)) = b) (w : World) :
    Calls Try.prog 30 #[.int .i64 fl, .int .i64 n] w fun e w' => e = .returned (.bool b) ∧ w = w' := by rw [← h]; exact rfloor_any _ _ _

def tgt (c f : Int) : Int := if c = 1 then wrap64 (f + 1) else wrap64 (f - 1)
theorem rtarget_any (c t f : Int) (w : World) :
    Calls Try.prog 31 #[.agg #[.int .i64 c, .int .i64 t, .int .i64 f]] w fun e w' => e = .returned (.int .i64 (tgt c f)) ∧ Below w.heap.size w w' := by
  by_cases h : c = 1
  · subst h
    go_enter Try.func31, Try.ntmps31
    go_wp2
    go_ret
    exact ⟨rfl, by (repeat' (first | with_reducible exact Below.refl _ _ | with_reducible assumption | with_reducible refine below_ext ?_ ?_ _ | with_reducible refine Below.alloc ?_ ?_ _ | with_reducible refine Below.drew ?_ | with_reducible exact Nat.le_refl _ | (simp only [World.size_alloc, World.size_setCell, World.size_drew, size_ext, add_add_n, add_drew_n]; omega) | (simp; omega)))⟩
  · have h1 : (c == 1) = false := by simpa using h
    go_enter Try.func31, Try.ntmps31
    go_wp2
    go_ret
    exact ⟨by simp [tgt, h], by (repeat' (first | with_reducible exact Below.refl _ _ | with_reducible assumption | with_reducible refine below_ext ?_ ?_ _ | with_reducible refine Below.alloc ?_ ?_ _ | with_reducible refine Below.drew ?_ | with_reducible exact Nat.le_refl _ | (simp only [World.size_alloc, World.size_setCell, World.size_drew, size_ext, add_add_n, add_drew_n]; omega) | (simp; omega)))⟩

def latT (t : Int) : Int := if 0 ≤ t ∧ t < 1000000 then t + 1 else t
theorem rlater_any (c t f : Int) (w : World) :
    Calls Try.prog 32 #[.agg #[.int .i64 c, .int .i64 t, .int .i64 f]] w fun e w' => e = .returned (.agg #[.int .i64 c, .int .i64 (latT t), .int .i64 f]) ∧ Below w.heap.size w w' := by
  by_cases h : 0 ≤ t ∧ t < 1000000
  · obtain ⟨h1, h2⟩ := h
    go_enter Try.func32, Try.ntmps32
    go_wp2
    go_returns
    exact ⟨by simp [latT, h1, h2], by (repeat' (first | with_reducible exact Below.refl _ _ | with_reducible assumption | with_reducible refine below_ext ?_ ?_ _ | with_reducible refine Below.alloc ?_ ?_ _ | with_reducible refine Below.drew ?_ | with_reducible exact Nat.le_refl _ | (simp only [World.size_alloc, World.size_setCell, World.size_drew, size_ext, add_add_n, add_drew_n]; omega) | (simp; omega)))⟩
  · go_enter Try.func32, Try.ntmps32
    go_wp2
    all_goals go_returns
    all_goals first | (exact ⟨by rw [latT, if_neg h], by (repeat' (first | with_reducible exact Below.refl _ _ | with_reducible assumption | with_reducible refine below_ext ?_ ?_ _ | with_reducible refine Below.alloc ?_ ?_ _ | with_reducible refine Below.drew ?_ | with_reducible exact Nat.le_refl _ | (simp only [World.size_alloc, World.size_setCell, World.size_drew, size_ext, add_add_n, add_drew_n]; omega) | (simp; omega)))⟩) | (exfalso; omega)

theorem tgt_eq (fl c f : Int) (h1 : 2 ≤ fl) (h2 : fl ≤ 32) (h3 : 0 ≤ f) (h4 : f < fl) : (0 ≤ tgt c f ∧ tgt c f < fl) ↔ (c = 1 ∧ f + 1 < fl ∨ c ≠ 1 ∧ 1 ≤ f) := by
  unfold tgt
  have e1 : wrap64 (f + 1) = f + 1 := IntWalk.wrap64_in _ ⟨by omega, by omega⟩
  have e2 : wrap64 (f - 1) = f - 1 := IntWalk.wrap64_in _ ⟨by omega, by omega⟩
  rw [e1, e2]
  split <;> omega

set_option maxHeartbeats 400000 in
theorem risState_any (fl c t f : Int) (w : World) :
    Calls Try.prog 24 #[.int .i64 fl, .agg #[.int .i64 c, .int .i64 t, .int .i64 f]] w fun e w' => e = .returned (.bool (isSt fl c t f)) ∧ Below w.heap.size w w' := by
  go_enter Try.func24, Try.ntmps24
  go_wp2_with (first | (go_at_call 30; refine (rfloor_any _ _ _).mono ?_; rintro e w' ⟨rfl, rfl⟩) | (go_at_call 31; refine (rtarget_any _ _ _ _).mono ?_; rintro e w' ⟨rfl, hb⟩; obtain ⟨g, rfl⟩ := ext_of hb; clear hb))
  all_goals go_ret
  all_goals refine ⟨ret_iff ?_, by (repeat' (first | with_reducible exact Below.refl _ _ | with_reducible assumption | with_reducible refine below_ext ?_ ?_ _ | with_reducible refine Below.alloc ?_ ?_ _ | with_reducible refine Below.drew ?_ | with_reducible exact Nat.le_refl _ | (simp only [World.size_alloc, World.size_setCell, World.size_drew, size_ext, add_add_n, add_drew_n]; omega) | (simp; omega)))⟩
  all_goals (have tq := tgt_eq fl c f; simp only [beq_iff_eq, beq_eq_false_iff_ne, bne_iff_ne, bne_eq_false_iff_eq, ne_eq, Bool.not_eq_true, Bool.not_eq_true', Bool.not_eq_false', Bool.not_eq_false, Bool.false_eq_true, Bool.true_eq_false, false_iff, true_iff, decide_eq_true_eq, decide_eq_false_iff_not, Bool.and_eq_true, Bool.or_eq_true, Bool.and_eq_false_iff, Bool.or_eq_false_iff] at *; omega)

def skipT (c t : Int) : Int := if (c ≠ 0 ∨ t ≠ 0) ∧ 0 ≤ t ∧ t < 1000000 then t + 1 else t
theorem skip_any (c t f : Int) (w : World) :
    Calls Try.prog 14 #[.agg #[.int .i64 c, .int .i64 t, .int .i64 f]] w fun e w' => e = .returned (.agg #[.int .i64 c, .int .i64 (skipT c t), .int .i64 f]) ∧ Below w.heap.size w w' := by
  go_enter Try.func14, Try.ntmps14
  go_wp2
  all_goals go_returns
  all_goals refine ⟨?_, by (repeat' (first | with_reducible exact Below.refl _ _ | with_reducible assumption | with_reducible refine below_ext ?_ ?_ _ | with_reducible refine Below.alloc ?_ ?_ _ | with_reducible refine Below.drew ?_ | with_reducible exact Nat.le_refl _ | (simp only [World.size_alloc, World.size_setCell, World.size_drew, size_ext, add_add_n, add_drew_n]; omega) | (simp; omega)))⟩
  all_goals (congr 1; (try simp only [beq_iff_eq, beq_eq_false_iff_ne, bne_iff_ne, bne_eq_false_iff_eq, ne_eq, Bool.not_eq_true, Bool.not_eq_true', Bool.not_eq_false', Bool.not_eq_false, Bool.false_eq_true, Bool.true_eq_false, false_iff, true_iff, decide_eq_true_eq, decide_eq_false_iff_not, Bool.and_eq_true, Bool.or_eq_true, Bool.and_eq_false_iff, Bool.or_eq_false_iff] at *); (try simp [skipT]); (repeat' (first | omega | (apply And.intro) | split)))

theorem rskip_any (c t f : Int) (w : World) :
    Calls Try.prog 25 #[.agg #[.int .i64 c, .int .i64 t, .int .i64 f]] w fun e w' => e = .returned (.agg #[.int .i64 c, .int .i64 (skipT c t), .int .i64 f]) ∧ Below w.heap.size w w' := by
  go_enter Try.func25, Try.ntmps25
  go_wp2_with ((go_at_call 32; refine (rlater_any _ _ _ _).mono ?_; rintro e w' ⟨rfl, hb⟩; obtain ⟨g, rfl⟩ := ext_of hb; clear hb))
  all_goals go_returns
  all_goals refine ⟨?_, by (repeat' (first | with_reducible exact Below.refl _ _ | with_reducible assumption | with_reducible refine below_ext ?_ ?_ _ | with_reducible refine Below.alloc ?_ ?_ _ | with_reducible refine Below.drew ?_ | with_reducible exact Nat.le_refl _ | (simp only [World.size_alloc, World.size_setCell, World.size_drew, size_ext, add_add_n, add_drew_n]; omega) | (simp; omega)))⟩
  all_goals (congr 1; (try simp only [beq_iff_eq, beq_eq_false_iff_ne, bne_iff_ne, bne_eq_false_iff_eq, ne_eq, Bool.not_eq_true, Bool.not_eq_true', Bool.not_eq_false', Bool.not_eq_false, Bool.false_eq_true, Bool.true_eq_false, false_iff, true_iff, decide_eq_true_eq, decide_eq_false_iff_not, Bool.and_eq_true, Bool.or_eq_true, Bool.and_eq_false_iff, Bool.or_eq_false_iff] at *); (try simp [skipT, latT]); (repeat' (first | omega | (apply And.intro) | split)))

theorem late_any (a b c d st f g h i c' t f' : Int) (w : World) :
    Calls Try.prog 11 #[.agg #[.int .i64 a, .int .i64 b, .int .i64 c, .int .i64 d, .int .i64 st, .int .i64 f, .int .i64 g, .int .i64 h, .int .i64 i], .agg #[.int .i64 c', .int .i64 t, .int .i64 f']] w fun e w' => e = .returned (.bool (decide (st < t))) ∧ Below w.heap.size w w' := by
  go_enter Try.func11, Try.ntmps11
  go_wp2
  go_ret
  exact ⟨rfl, by (repeat' (first | with_reducible exact Below.refl _ _ | with_reducible assumption | with_reducible refine below_ext ?_ ?_ _ | with_reducible refine Below.alloc ?_ ?_ _ | with_reducible refine Below.drew ?_ | with_reducible exact Nat.le_refl _ | (simp only [World.size_alloc, World.size_setCell, World.size_drew, size_ext, add_add_n, add_drew_n]; omega) | (simp; omega)))⟩

theorem rlate_any (a b c d st f g h i c' t f' : Int) (w : World) :
    Calls Try.prog 26 #[.agg #[.int .i64 a, .int .i64 b, .int .i64 c, .int .i64 d, .int .i64 st, .int .i64 f, .int .i64 g, .int .i64 h, .int .i64 i], .agg #[.int .i64 c', .int .i64 t, .int .i64 f']] w fun e w' => e = .returned (.bool (decide (st < t))) ∧ Below w.heap.size w w' := by
  go_enter Try.func26, Try.ntmps26
  go_wp2
  go_ret
  exact ⟨rfl, by (repeat' (first | with_reducible exact Below.refl _ _ | with_reducible assumption | with_reducible refine below_ext ?_ ?_ _ | with_reducible refine Below.alloc ?_ ?_ _ | with_reducible refine Below.drew ?_ | with_reducible exact Nat.le_refl _ | (simp only [World.size_alloc, World.size_setCell, World.size_drew, size_ext, add_add_n, add_drew_n]; omega) | (simp; omega)))⟩

set_option maxHeartbeats 1600000 in
theorem rstep_any (fl c t f fbF dr want : Int) (lv bl : Bool) (w : World) :
    Calls Try.prog 23 #[.int .i64 fl, .agg #[.int .i64 c, .int .i64 t, .int .i64 f], .agg #[.int .i64 fbF, .bool lv, .int .i64 dr, .bool bl], .int .i64 want] w fun e w' => e = .returned (stepV fl c t f fbF want lv) ∧ Below w.heap.size w w' := by
  cases hs : isSt fl c t f
  · go_enter Try.func23, Try.ntmps23
    go_wp2_with (first | (go_at_call 30; refine (rfloor_any _ _ _).mono ?_; rintro e w' ⟨rfl, rfl⟩) | (go_at_call 24; refine (risState_any _ _ _ _ _).mono ?_; rintro e w' ⟨rfl, hb⟩; obtain ⟨g, rfl⟩ := ext_of hb; clear hb))
    go_returns
    exact ⟨by simp [stepV, hs], by (repeat' (first | with_reducible exact Below.refl _ _ | with_reducible assumption | with_reducible refine below_ext ?_ ?_ _ | with_reducible refine Below.alloc ?_ ?_ _ | with_reducible refine Below.drew ?_ | with_reducible exact Nat.le_refl _ | (simp only [World.size_alloc, World.size_setCell, World.size_drew, size_ext, add_add_n, add_drew_n]; omega) | (simp; omega)))⟩
  obtain ⟨b1, b2, b3, b4, b5, b6⟩ := isSt_bd hs
  by_cases hf : 0 ≤ fbF ∧ fbF < fl
  rotate_left
  · have hfb : (decide (0 ≤ fbF) && decide (fbF < fl)) = false := by simp; omega
    have e1 : stepV fl c t f fbF want lv = .tuple #[.agg #[.int .i64 0, .int .i64 0, .int .i64 0], .int .i64 0, .bool false] := by rw [stepV, if_neg (fun h => hf h.2)]
    rw [e1]
    clear e1 hf
    go_enter Try.func23, Try.ntmps23
    go_wp2_with (first | (go_at_call 30; refine (rfloor_eq hfb _).mono ?_; rintro e w' ⟨rfl, rfl⟩) | (go_at_call 24; refine (risState_any _ _ _ _ _).mono ?_; rintro e w' ⟨rfl, hb⟩; obtain ⟨g, rfl⟩ := ext_of hb; clear hb))
    go_returns
    exact ⟨rfl, by (repeat' (first | with_reducible exact Below.refl _ _ | with_reducible assumption | with_reducible refine below_ext ?_ ?_ _ | with_reducible refine Below.alloc ?_ ?_ _ | with_reducible refine Below.drew ?_ | with_reducible exact Nat.le_refl _ | (simp only [World.size_alloc, World.size_setCell, World.size_drew, size_ext, add_add_n, add_drew_n]; omega) | (simp; omega)))⟩
  obtain ⟨f1, f2⟩ := hf
  by_cases hc : c = 0
  · subst hc
    cases lv
    · go_enter Try.func23, Try.ntmps23
      go_wp2_with (first | (go_at_call 30; refine (rfloor_any _ _ _).mono ?_; rintro e w' ⟨rfl, rfl⟩) | (go_at_call 24; refine (risState_any _ _ _ _ _).mono ?_; rintro e w' ⟨rfl, hb⟩; obtain ⟨g, rfl⟩ := ext_of hb; clear hb) | (go_at_call 32; refine (rlater_any _ _ _ _).mono ?_; rintro e w' ⟨rfl, hb⟩; obtain ⟨g, rfl⟩ := ext_of hb; clear hb))
      all_goals go_returns
      all_goals refine ⟨?_, by (repeat' (first | with_reducible exact Below.refl _ _ | with_reducible assumption | with_reducible refine below_ext ?_ ?_ _ | with_reducible refine Below.alloc ?_ ?_ _ | with_reducible refine Below.drew ?_ | with_reducible exact Nat.le_refl _ | (simp only [World.size_alloc, World.size_setCell, World.size_drew, size_ext, add_add_n, add_drew_n]; omega) | (simp; omega)))⟩
      all_goals (rw [stepV, if_pos ⟨hs, f1, f2⟩, if_neg (by simp), if_pos (by simp)]; (congr 1; (try simp only [beq_iff_eq, beq_eq_false_iff_ne, bne_iff_ne, bne_eq_false_iff_eq, ne_eq, Bool.not_eq_true, Bool.not_eq_true', Bool.not_eq_false', Bool.not_eq_false, Bool.false_eq_true, Bool.true_eq_false, false_iff, true_iff, decide_eq_true_eq, decide_eq_false_iff_not, Bool.and_eq_true, Bool.or_eq_true, Bool.and_eq_false_iff, Bool.or_eq_false_iff] at *); (try simp [latT]); (repeat' (first | omega | (apply And.intro) | split))))
    · cases hw : isSt fl want 0 fbF
      all_goals by_cases hw0 : want = 0
      all_goals go_enter Try.func23, Try.ntmps23
      all_goals go_wp2_with (first | (go_at_call 30; refine (rfloor_any _ _ _).mono ?_; rintro e w' ⟨rfl, rfl⟩) | (go_at_call 24; refine (risState_any _ _ _ _ _).mono ?_; rintro e w' ⟨rfl, hb⟩; obtain ⟨g, rfl⟩ := ext_of hb; clear hb) | (go_at_call 32; refine (rlater_any _ _ _ _).mono ?_; rintro e w' ⟨rfl, hb⟩; obtain ⟨g, rfl⟩ := ext_of hb; clear hb))
      all_goals first | go_returns | (go_region; all_goals (go_wp2; go_returns))
      all_goals refine ⟨?_, by (repeat' (first | with_reducible exact Below.refl _ _ | with_reducible assumption | with_reducible refine below_ext ?_ ?_ _ | with_reducible refine Below.alloc ?_ ?_ _ | with_reducible refine Below.drew ?_ | with_reducible exact Nat.le_refl _ | (simp only [World.size_alloc, World.size_setCell, World.size_drew, size_ext, add_add_n, add_drew_n]; omega) | (simp; omega)))⟩
      all_goals (have ow := okB_eq fl fbF want b1 b2 f1 f2; rw [stepV, if_pos ⟨hs, f1, f2⟩, if_neg (by simp [okB]), if_neg (by simp [okB])])
      all_goals first | rw [if_neg (by rw [ow]; simp [isSt, hw0] at hw; omega)] | rw [if_pos (by rw [ow]; simp [isSt, hw0] at hw; omega)]
  · have hc' : (c != 0) = true := by simpa using hc
    have hok : okB fl f c = true := by rw [okB_eq fl f c b1 b2 b5 b6]; simp [isSt, hc] at hs; omega
    have htg : tgt c f = toB f c := by
      rw [okB_eq fl f c b1 b2 b5 b6] at hok
      rcases hok with ⟨rfl, _⟩ | ⟨rfl, _⟩ <;> rfl
    have Htg := Lib.hid htg
    clear htg
    have ht : latT t = min (t + 1) 1000000 := by unfold latT; split <;> omega
    cases lv
    · go_enter Try.func23, Try.ntmps23
      go_wp2_with (first | (go_at_call 30; refine (rfloor_any _ _ _).mono ?_; rintro e w' ⟨rfl, rfl⟩) | (go_at_call 24; refine (risState_any _ _ _ _ _).mono ?_; rintro e w' ⟨rfl, hb⟩; obtain ⟨g, rfl⟩ := ext_of hb; clear hb) | (go_at_call 32; refine (rlater_any _ _ _ _).mono ?_; rintro e w' ⟨rfl, hb⟩; obtain ⟨g, rfl⟩ := ext_of hb; clear hb))
      (refine wp_region_ext (by kernel_rfl) (by kernel_rfl) ?_; (repeat (go_big_quiet_step ( (go_at_call 31; first | exact call_ext2 (rtarget_any _ _ _ _) | exact call_ext (rtarget_any _ _ _ _)) ))); (with_reducible refine wpQuiet_nil ?_); intro _ hw'; obtain ⟨gq, rfl⟩ := hw'; try simp only [ext_ext])
      go_wp2
      go_region_with ((go_at_call 32; refine (rlater_any _ _ _ _).mono ?_; rintro e w' ⟨rfl, hb⟩; obtain ⟨g, rfl⟩ := ext_of hb; clear hb))
      all_goals go_wp2
      all_goals go_returns
      all_goals exact ⟨by rw [stepV, if_pos ⟨hs, f1, f2⟩, if_neg (by simp), if_pos (by simp)], by (repeat' (first | with_reducible exact Below.refl _ _ | with_reducible assumption | with_reducible refine below_ext ?_ ?_ _ | with_reducible refine Below.alloc ?_ ?_ _ | with_reducible refine Below.drew ?_ | with_reducible exact Nat.le_refl _ | (simp only [World.size_alloc, World.size_setCell, World.size_drew, size_ext, add_add_n, add_drew_n]; omega) | (simp; omega)))⟩
    · by_cases hq : fbF = toB f c
      · have hq' : (fbF == tgt c f) = true := by rw [Htg.out]; simpa using hq
        clear hq
        go_enter Try.func23, Try.ntmps23
        go_wp2_with (first | (go_at_call 30; refine (rfloor_any _ _ _).mono ?_; rintro e w' ⟨rfl, rfl⟩) | (go_at_call 24; refine (risState_any _ _ _ _ _).mono ?_; rintro e w' ⟨rfl, hb⟩; obtain ⟨g, rfl⟩ := ext_of hb; clear hb) | (go_at_call 32; refine (rlater_any _ _ _ _).mono ?_; rintro e w' ⟨rfl, hb⟩; obtain ⟨g, rfl⟩ := ext_of hb; clear hb))
        (refine wp_region_ext (by kernel_rfl) (by kernel_rfl) ?_; (repeat (go_big_quiet_step ( (go_at_call 31; first | exact call_ext2 (rtarget_any _ _ _ _) | exact call_ext (rtarget_any _ _ _ _)) ))); (with_reducible refine wpQuiet_nil ?_); intro _ hw'; obtain ⟨gq, rfl⟩ := hw'; try simp only [ext_ext])
        go_wp2
        go_returns
        exact ⟨by rw [stepV, if_pos ⟨hs, f1, f2⟩, if_pos ⟨hok, rfl, by rw [← Htg.out]; simpa using hq'⟩], by (repeat' (first | with_reducible exact Below.refl _ _ | with_reducible assumption | with_reducible refine below_ext ?_ ?_ _ | with_reducible refine Below.alloc ?_ ?_ _ | with_reducible refine Below.drew ?_ | with_reducible exact Nat.le_refl _ | (simp only [World.size_alloc, World.size_setCell, World.size_drew, size_ext, add_add_n, add_drew_n]; omega) | (simp; omega)))⟩
      · have hq' : (fbF == tgt c f) = false := by rw [Htg.out]; simpa using hq
        have Hq := Lib.hid hq
        clear hq
        go_enter Try.func23, Try.ntmps23
        go_wp2_with (first | (go_at_call 30; refine (rfloor_any _ _ _).mono ?_; rintro e w' ⟨rfl, rfl⟩) | (go_at_call 24; refine (risState_any _ _ _ _ _).mono ?_; rintro e w' ⟨rfl, hb⟩; obtain ⟨g, rfl⟩ := ext_of hb; clear hb) | (go_at_call 32; refine (rlater_any _ _ _ _).mono ?_; rintro e w' ⟨rfl, hb⟩; obtain ⟨g, rfl⟩ := ext_of hb; clear hb))
        (refine wp_region_ext (by kernel_rfl) (by kernel_rfl) ?_; (repeat (go_big_quiet_step ( (go_at_call 31; first | exact call_ext2 (rtarget_any _ _ _ _) | exact call_ext (rtarget_any _ _ _ _)) ))); (with_reducible refine wpQuiet_nil ?_); intro _ hw'; obtain ⟨gq, rfl⟩ := hw'; try simp only [ext_ext])
        go_wp2
        go_region_with ((go_at_call 32; refine (rlater_any _ _ _ _).mono ?_; rintro e w' ⟨rfl, hb⟩; obtain ⟨g, rfl⟩ := ext_of hb; clear hb))
        all_goals go_wp2
        all_goals go_returns
        all_goals exact ⟨by rw [stepV, if_pos ⟨hs, f1, f2⟩, if_neg (fun h => Hq.out h.2.2), if_pos (.inl hok)], by (repeat' (first | with_reducible exact Below.refl _ _ | with_reducible assumption | with_reducible refine below_ext ?_ ?_ _ | with_reducible refine Below.alloc ?_ ?_ _ | with_reducible refine Below.drew ?_ | with_reducible exact Nat.le_refl _ | (simp only [World.size_alloc, World.size_setCell, World.size_drew, size_ext, add_add_n, add_drew_n]; omega) | (simp; omega)))⟩

/-- Both agree. -/
theorem same_any (fl a b c d st f g h i s0 s1 s2 f0 f2 want : Int) (f1 f3 : Bool) (w : World) :
    Calls Try.prog 13 #[.int .i64 fl, .agg #[.int .i64 a, .int .i64 b, .int .i64 c, .int .i64 d, .int .i64 st, .int .i64 f, .int .i64 g, .int .i64 h, .int .i64 i], .agg #[.int .i64 s0, .int .i64 s1, .int .i64 s2], .agg #[.int .i64 f0, .bool f1, .int .i64 f2, .bool f3], .int .i64 want] w fun e w' => e = .returned (.bool true) ∧ Below w.heap.size w w' := by
  obtain ⟨m0, m1, m2, cm, ok, hv⟩ : ∃ (m0 m1 m2 cm : Int) (ok : Bool), stepV fl s0 s1 s2 f0 want f1 = .tuple #[.agg #[.int .i64 m0, .int .i64 m1, .int .i64 m2], .int .i64 cm, .bool ok] := by
    unfold stepV
    split
    · split
      · exact ⟨_, _, _, _, _, rfl⟩
      split
      · exact ⟨_, _, _, _, _, rfl⟩
      split <;> exact ⟨_, _, _, _, _, rfl⟩
    · exact ⟨_, _, _, _, _, rfl⟩
  have k1 := step_any fl s0 s1 s2 f0 f2 want f1 f3
  have k2 := rstep_any fl s0 s1 s2 f0 f2 want f1 f3
  rw [hv] at k1 k2
  clear hv
  have K1 := Lib.hid k1
  have K2 := Lib.hid k2
  clear k1 k2
  go_enter Try.func13, Try.ntmps13
  go_wp2_with (first | (go_at_call 10; refine (K1.out _).mono ?_; rintro e w' ⟨rfl, hb⟩; obtain ⟨g, rfl⟩ := ext_of hb; clear hb) | (go_at_call 23; refine (K2.out _).mono ?_; rintro e w' ⟨rfl, hb⟩; obtain ⟨g, rfl⟩ := ext_of hb; clear hb))
  (refine wp_region_ext (by kernel_rfl) (by kernel_rfl) ?_; (repeat (go_big_quiet_step ( first | (go_at_call 21; first | exact call_ext2 (isState_any _ _ _ _ _) | exact call_ext (isState_any _ _ _ _ _)) | (go_at_call 24; first | exact call_ext2 (risState_any _ _ _ _ _) | exact call_ext (risState_any _ _ _ _ _)) | (go_at_call 14; first | exact call_ext2 (skip_any _ _ _ _) | exact call_ext (skip_any _ _ _ _)) | (go_at_call 25; first | exact call_ext2 (rskip_any _ _ _ _) | exact call_ext (rskip_any _ _ _ _)) | (go_at_call 11; first | exact call_ext2 (late_any _ _ _ _ _ _ _ _ _ _ _ _ _) | exact call_ext (late_any _ _ _ _ _ _ _ _ _ _ _ _ _)) | (go_at_call 26; first | exact call_ext2 (rlate_any _ _ _ _ _ _ _ _ _ _ _ _ _) | exact call_ext (rlate_any _ _ _ _ _ _ _ _ _ _ _ _ _)) ))); (with_reducible refine wpQuiet_nil ?_); intro _ hw'; obtain ⟨gq, rfl⟩ := hw'; try simp only [ext_ext])
  go_wp2
  go_ret
  exact ⟨rfl, by (repeat' (first | with_reducible exact Below.refl _ _ | with_reducible assumption | with_reducible refine below_ext ?_ ?_ _ | with_reducible refine Below.alloc ?_ ?_ _ | with_reducible refine Below.drew ?_ | with_reducible exact Nat.le_refl _ | (simp only [World.size_alloc, World.size_setCell, World.size_drew, size_ext, add_add_n, add_drew_n]; omega) | (simp; omega)))⟩
end Go.Proofs.Ytkfhampdellhoaa.Mo
