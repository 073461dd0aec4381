/- Contracts of the reference of package door (layer 12). -/
import Derived.Test.YtkanaakceokifaaDoS
namespace Go.Proofs.Ytkanaakceokifaa.Do
open Go.RowKit Go.Proofs.Ytkanaakceokifaa
set_option linter.unusedSimpArgs false
set_option linter.unusedVariables false

theorem rin_any (n : Int) (w : World) : Calls Try.prog 55 #[.int .i64 n] w fun e w' => e = .returned (.bool (cnt n)) ∧ w = w' := by
  go_enter Try.func55, Try.ntmps55
  go_wp2
  all_goals (go_ret; refine ⟨ret_iff ?_, rfl⟩; (try simp only [beq_iff_eq, beq_eq_false_iff_ne, bne_iff_ne, bne_eq_false_iff_eq, ne_eq, Bool.not_eq_true, Bool.not_eq_true', Bool.not_eq_false', Bool.not_eq_false, Bool.false_eq_true, Bool.true_eq_false, false_iff, true_iff, decide_eq_true_eq, decide_eq_false_iff_not, Bool.and_eq_true, Bool.or_eq_true, Bool.and_eq_false_iff, Bool.or_eq_false_iff] at *); omega)

theorem rmore_any (n : Int) (h0 : 0 ≤ n) (h1 : n ≤ 1000000) (w : World) : Calls Try.prog 51 #[.int .i64 n] w fun e w' => e = .returned (.int .i64 (mo n)) ∧ w = w' := by
  go_enter Try.func51, Try.ntmps51
  go_wp2
  all_goals (go_ret; refine ⟨ret_int ?_, rfl⟩; unfold mo; omega)

set_option maxHeartbeats 800000 in
theorem risState_any (a b c : Int) (d : Bool) (e' : Int) (w : World) :
    Calls Try.prog 32 #[.agg #[.int .i64 a, .int .i64 b, .int .i64 c, .bool d, .int .i64 e']] w fun e w' => e = .returned (.bool (isD ⟨a, b, c, d, e'⟩)) ∧ Below w.heap.size w w' := by
  go_enter Try.func32, Try.ntmps32
  go_wp2_with ((go_at_call 55; refine (rin_any _ _).mono ?_; rintro e w' ⟨rfl, rfl⟩))
  all_goals go_ret
  all_goals refine ⟨ret_bool ?_, by (repeat' (first | with_reducible exact Below.refl _ _ | with_reducible assumption | with_reducible refine below_ext ?_ ?_ _ | with_reducible refine Below.alloc ?_ ?_ _ | with_reducible refine Below.drew ?_ | with_reducible exact Nat.le_refl _ | (simp only [World.size_alloc, World.size_setCell, World.size_drew, size_ext]; omega) | (simp; omega)))⟩
  all_goals (simp only [cnt, isD, beq_iff_eq, beq_eq_false_iff_ne, bne_iff_ne, bne_eq_false_iff_eq, ne_eq, Bool.not_eq_true, Bool.not_eq_true', Bool.not_eq_false', Bool.not_eq_false, Bool.false_eq_true, Bool.true_eq_false, false_iff, true_iff, decide_eq_true_eq, decide_eq_false_iff_not, Bool.and_eq_true, Bool.or_eq_true, Bool.and_eq_false_iff, Bool.or_eq_false_iff] at *; (try rw [eq_comm]); (try rw [decide_eq_decide]); (try simp only [decide_eq_true_eq, decide_eq_false_iff_not]); first | omega | (simp_all; done) | (simp_all; omega))

theorem rlate_any (ca cb cc cd ce cf cg ch ci a b c : Int) (d : Bool) (e' : Int) (w : World) :
    Calls Try.prog 35 #[.agg #[.int .i64 ca, .int .i64 cb, .int .i64 cc, .int .i64 cd, .int .i64 ce, .int .i64 cf, .int .i64 cg, .int .i64 ch, .int .i64 ci], .agg #[.int .i64 a, .int .i64 b, .int .i64 c, .bool d, .int .i64 e']] w fun e w' => e = .returned (.bool (lateD cf ⟨a, b, c, d, e'⟩)) ∧ Below w.heap.size w w' := by
  go_enter Try.func35, Try.ntmps35
  go_wp2
  all_goals go_ret
  all_goals refine ⟨ret_bool ?_, by (repeat' (first | with_reducible exact Below.refl _ _ | with_reducible assumption | with_reducible refine below_ext ?_ ?_ _ | with_reducible refine Below.alloc ?_ ?_ _ | with_reducible refine Below.drew ?_ | with_reducible exact Nat.le_refl _ | (simp only [World.size_alloc, World.size_setCell, World.size_drew, size_ext]; omega) | (simp; omega)))⟩
  all_goals (simp only [lateD, beq_iff_eq, beq_eq_false_iff_ne, bne_iff_ne, bne_eq_false_iff_eq, ne_eq, Bool.not_eq_true, Bool.not_eq_true', Bool.not_eq_false', Bool.not_eq_false, Bool.false_eq_true, Bool.true_eq_false, false_iff, true_iff, decide_eq_true_eq, decide_eq_false_iff_not, Bool.and_eq_true, Bool.or_eq_true, Bool.and_eq_false_iff, Bool.or_eq_false_iff] at *; simp [*]; try omega)

theorem rto_any (a b c : Int) (d : Bool) (e' x : Int) (w : World) :
    Calls Try.prog 50 #[.agg #[.int .i64 a, .int .i64 b, .int .i64 c, .bool d, .int .i64 e'], .int .i64 x] w fun e w' => e = .returned (.agg #[.int .i64 x, .int .i64 0, .int .i64 c, .bool d, .int .i64 e']) ∧ Below w.heap.size w w' := by
  go_enter Try.func50, Try.ntmps50
  go_wp2
  go_returns
  exact ⟨rfl, by (repeat' (first | with_reducible exact Below.refl _ _ | with_reducible assumption | with_reducible refine below_ext ?_ ?_ _ | with_reducible refine Below.alloc ?_ ?_ _ | with_reducible refine Below.drew ?_ | with_reducible exact Nat.le_refl _ | (simp only [World.size_alloc, World.size_setCell, World.size_drew, size_ext]; omega) | (simp; omega)))⟩

theorem rnudged_any (a b c : Int) (d : Bool) (e' : Int) (ha : a = 1 ∨ a = 2 ∨ a = 3) (h0 : 0 ≤ b) (h1 : b ≤ 1000000) (w : World) :
    Calls Try.prog 52 #[.agg #[.int .i64 a, .int .i64 b, .int .i64 c, .bool d, .int .i64 e']] w fun e w' => e = .returned (.tuple #[.agg #[.int .i64 3, .int .i64 (if a = 3 ∧ d = true then mo b else 0), .int .i64 c, .bool true, .int .i64 e'], .int .i64 5]) ∧ Below w.heap.size w w' := by
  rcases ha with rfl | rfl | rfl
  all_goals cases d
  all_goals go_enter Try.func52, Try.ntmps52
  all_goals go_wp2_with (first | (go_at_call 50; refine (rto_any _ _ _ _ _ _ _).mono ?_; rintro e w' ⟨rfl, hb⟩; obtain ⟨g, rfl⟩ := ext_of hb; clear hb) | (go_at_call 51; refine (rmore_any _ h0 h1 _).mono ?_; rintro e w' ⟨rfl, rfl⟩))
  all_goals first | go_returns | (go_region; all_goals (go_wp2; go_returns))
  all_goals exact ⟨by simp, by (repeat' (first | with_reducible exact Below.refl _ _ | with_reducible assumption | with_reducible refine below_ext ?_ ?_ _ | with_reducible refine Below.alloc ?_ ?_ _ | with_reducible refine Below.drew ?_ | with_reducible exact Nat.le_refl _ | (simp only [World.size_alloc, World.size_setCell, World.size_drew, size_ext]; omega) | (simp; omega)))⟩

set_option maxHeartbeats 4000000 in
theorem rcore_zero (ca cb cc cd ce cf dw ho ci a b : Int) (d : Bool) (e' door : Int) (bl want : Bool) (hd : isD ⟨a, b, 0, d, e'⟩ = true) (ha : a = 1 ∨ a = 2 ∨ a = 3)
    (b0 : 0 ≤ b) (b1 : b ≤ 1000000) (y0 : 0 ≤ e') (y1 : e' ≤ 1000000) (w : World) :
    Calls Try.prog 25 #[.agg #[.int .i64 ca, .int .i64 cb, .int .i64 cc, .int .i64 cd, .int .i64 ce, .int .i64 cf, .int .i64 dw, .int .i64 ho, .int .i64 ci], .agg #[.int .i64 a, .int .i64 b, .int .i64 0, .bool d, .int .i64 e'], .int .i64 door, .bool bl, .bool want] w fun e w' => e = .returned (rv (coreD dw ho ⟨a, b, 0, d, e'⟩ door bl)) ∧ Below w.heap.size w w' := by
  rcases ha with rfl | rfl | rfl
  all_goals by_cases hl : ho < 0
  all_goals go_enter Try.func25, Try.ntmps25
  all_goals go_wp2_with (first | (go_at_call 32; refine (risState_any _ _ _ _ _ _).mono ?_; rintro e w' ⟨rfl, hb⟩; obtain ⟨g, rfl⟩ := ext_of hb; clear hb) | (go_at_call 50; refine (rto_any _ _ _ _ _ _ _).mono ?_; rintro e w' ⟨rfl, hb⟩; obtain ⟨g, rfl⟩ := ext_of hb; clear hb) | (go_at_call 52; refine (rnudged_any _ _ _ _ _ (by omega) b0 b1 _).mono ?_; rintro e w' ⟨rfl, hb⟩; obtain ⟨g, rfl⟩ := ext_of hb; clear hb) | (go_at_call 51; refine (rmore_any _ y0 y1 _).mono ?_; rintro e w' ⟨rfl, rfl⟩) | (go_at_call 51; refine (rmore_any _ b0 b1 _).mono ?_; rintro e w' ⟨rfl, rfl⟩))
  all_goals first | go_returns | (go_region; all_goals (go_wp2; go_returns))
  all_goals refine ⟨?_, by (repeat' (first | with_reducible exact Below.refl _ _ | with_reducible assumption | with_reducible refine below_ext ?_ ?_ _ | with_reducible refine Below.alloc ?_ ?_ _ | with_reducible refine Below.drew ?_ | with_reducible exact Nat.le_refl _ | (simp only [World.size_alloc, World.size_setCell, World.size_drew, size_ext]; omega) | (simp; omega)))⟩
  all_goals clear hd
  all_goals (congr 1; (try simp only [beq_iff_eq, beq_eq_false_iff_ne, bne_iff_ne, bne_eq_false_iff_eq, ne_eq, Bool.not_eq_true, Bool.not_eq_true', Bool.not_eq_false', Bool.not_eq_false, Bool.false_eq_true, Bool.true_eq_false, false_iff, true_iff, decide_eq_true_eq, decide_eq_false_iff_not, Bool.and_eq_true, Bool.or_eq_true, Bool.and_eq_false_iff, Bool.or_eq_false_iff] at *); (first | (have hl2 : (ho < 0) = False := eq_false (by omega); clear hl; simp [coreD, zero, *]) | (have hl2 : (ho < 0) = True := eq_true (by omega); clear hl; simp [coreD, zero, *])); (try omega); (try (split <;> first | (simp_all; done) | (exfalso; omega))))

set_option maxHeartbeats 4000000 in
theorem rcore_more (ca cb cc cd ce cf dw ho ci a b c : Int) (d : Bool) (e' door : Int) (bl want : Bool) (hd : isD ⟨a, b, c, d, e'⟩ = true) (ha : a = 1 ∨ a = 2 ∨ a = 3)
    (b0 : 0 ≤ b) (b1 : b ≤ 1000000) (s0 : 0 < c) (s1 : c ≤ 1000000) (y0 : 0 ≤ e') (y1 : e' ≤ 1000000) (w : World) :
    Calls Try.prog 25 #[.agg #[.int .i64 ca, .int .i64 cb, .int .i64 cc, .int .i64 cd, .int .i64 ce, .int .i64 cf, .int .i64 dw, .int .i64 ho, .int .i64 ci], .agg #[.int .i64 a, .int .i64 b, .int .i64 c, .bool d, .int .i64 e'], .int .i64 door, .bool bl, .bool want] w fun e w' => e = .returned (rv (coreD dw ho ⟨a, b, mo c, d, e'⟩ door bl)) ∧ Below w.heap.size w w' := by
  have s0' : 0 ≤ c := by omega
  have q0 : 1 ≤ mo c := by unfold mo; omega
  have q1 : mo c ≤ 1000000 := by unfold mo; omega
  rcases ha with rfl | rfl | rfl
  all_goals by_cases hl : ho < mo c
  all_goals go_enter Try.func25, Try.ntmps25
  all_goals go_wp2_with (first | (go_at_call 32; refine (risState_any _ _ _ _ _ _).mono ?_; rintro e w' ⟨rfl, hb⟩; obtain ⟨g, rfl⟩ := ext_of hb; clear hb) | (go_at_call 50; refine (rto_any _ _ _ _ _ _ _).mono ?_; rintro e w' ⟨rfl, hb⟩; obtain ⟨g, rfl⟩ := ext_of hb; clear hb) | (go_at_call 52; refine (rnudged_any _ _ _ _ _ (by omega) b0 b1 _).mono ?_; rintro e w' ⟨rfl, hb⟩; obtain ⟨g, rfl⟩ := ext_of hb; clear hb) | (go_at_call 51; (with_reducible refine (rmore_any c s0' s1 _).mono ?_); rintro e w' ⟨rfl, rfl⟩) | (go_at_call 51; (with_reducible refine (rmore_any e' y0 y1 _).mono ?_); rintro e w' ⟨rfl, rfl⟩) | (go_at_call 51; (with_reducible refine (rmore_any b b0 b1 _).mono ?_); rintro e w' ⟨rfl, rfl⟩))
  all_goals first | go_returns | (go_region; all_goals (go_wp2; go_returns))
  all_goals refine ⟨?_, by (repeat' (first | with_reducible exact Below.refl _ _ | with_reducible assumption | with_reducible refine below_ext ?_ ?_ _ | with_reducible refine Below.alloc ?_ ?_ _ | with_reducible refine Below.drew ?_ | with_reducible exact Nat.le_refl _ | (simp only [World.size_alloc, World.size_setCell, World.size_drew, size_ext]; omega) | (simp; omega)))⟩
  all_goals clear hd
  all_goals (congr 1; (try simp only [beq_iff_eq, beq_eq_false_iff_ne, bne_iff_ne, bne_eq_false_iff_eq, ne_eq, Bool.not_eq_true, Bool.not_eq_true', Bool.not_eq_false', Bool.not_eq_false, Bool.false_eq_true, Bool.true_eq_false, false_iff, true_iff, decide_eq_true_eq, decide_eq_false_iff_not, Bool.and_eq_true, Bool.or_eq_true, Bool.and_eq_false_iff, Bool.or_eq_false_iff] at *); (first | (have hl2 : (ho < mo c) = False := eq_false (by omega); clear hl; simp [coreD, zero, *]) | (have hl2 : (ho < mo c) = True := eq_true (by omega); clear hl; simp [coreD, zero, *])); (try omega); (try (split <;> first | (simp_all; done) | (exfalso; omega))))

end Go.Proofs.Ytkanaakceokifaa.Do
