/- The step of package door. -/
import Derived.Test.YtkanaakceokifaaDo
namespace Go.Proofs.Ytkanaakceokifaa.Do
open Go.RowKit Go.Proofs.Ytkanaakceokifaa
set_option linter.unusedSimpArgs false
set_option linter.unusedVariables false

set_option maxHeartbeats 4000000 in
theorem core_any (ca cb cc cd ce cf dw ho ci a b c c1 : Int) (d : Bool) (e' door : Int) (bl want : Bool) (hd : isD ⟨a, b, c, d, e'⟩ = true) (ha : a = 1 ∨ a = 2 ∨ a = 3)
    (b0 : 0 ≤ b) (b1 : b ≤ 1000000) (s0 : 0 ≤ c) (s1 : c ≤ 1000000) (y0 : 0 ≤ e') (y1 : e' ≤ 1000000) (q0 : 0 ≤ c1) (q1 : c1 ≤ 1000000) (hc : Hid ((ctd ⟨a, b, c, d, e'⟩).si = c1)) (w : World) :
    Calls Try.prog 24 #[.agg #[.int .i64 ca, .int .i64 cb, .int .i64 cc, .int .i64 cd, .int .i64 ce, .int .i64 cf, .int .i64 dw, .int .i64 ho, .int .i64 ci], .agg #[.int .i64 a, .int .i64 b, .int .i64 c, .bool d, .int .i64 e'], .int .i64 door, .bool bl, .bool want] w fun e w' => e = .returned (rv (coreD dw ho ⟨a, b, c1, d, e'⟩ door bl)) ∧ Below w.heap.size w w' := by
  rcases ha with rfl | rfl | rfl
  all_goals by_cases hl : ho < c1
  all_goals go_enter Try.func24, Try.ntmps24
  all_goals go_wp2_with (first | (go_at_call 54; refine (isCount_any _ _).mono ?_; rintro e w' ⟨rfl, rfl⟩) | (go_at_call 31; refine (isState_any _ _ _ _ _ _).mono ?_; rintro e w' ⟨rfl, hb⟩; obtain ⟨g, rfl⟩ := ext_of hb; clear hb) | (go_at_call 45; refine (counted_eq s0 s1 hc.out _).mono ?_; rintro e w' ⟨rfl, hb⟩; obtain ⟨g, rfl⟩ := ext_of hb; clear hb) | (go_at_call 46; refine (enter_any _ _ _ _ _ _ _).mono ?_; rintro e w' ⟨rfl, hb⟩; obtain ⟨g, rfl⟩ := ext_of hb; clear hb) | (go_at_call 48; refine (nudge_any _ _ _ _ _ _).mono ?_; rintro e w' ⟨rfl, hb⟩; obtain ⟨g, rfl⟩ := ext_of hb; clear hb) | (go_at_call 47; refine (stay_any _ _ _ _ _ _ b0 b1 _).mono ?_; rintro e w' ⟨rfl, hb⟩; obtain ⟨g, rfl⟩ := ext_of hb; clear hb) | (go_at_call 49; refine (more_any _ y0 y1 _).mono ?_; rintro e w' ⟨rfl, rfl⟩))
  all_goals go_returns
  all_goals refine ⟨?_, by (repeat' (first | with_reducible exact Below.refl _ _ | with_reducible assumption | with_reducible refine below_ext ?_ ?_ _ | with_reducible refine Below.alloc ?_ ?_ _ | with_reducible refine Below.drew ?_ | with_reducible exact Nat.le_refl _ | (simp only [World.size_alloc, World.size_setCell, World.size_drew, size_ext]; omega) | (simp; omega)))⟩
  all_goals clear hd hc
  all_goals (congr 1; (try simp only [beq_iff_eq, beq_eq_false_iff_ne, bne_iff_ne, bne_eq_false_iff_eq, ne_eq, Bool.not_eq_true, Bool.not_eq_true', Bool.not_eq_false', Bool.not_eq_false, Bool.false_eq_true, Bool.true_eq_false, false_iff, true_iff, decide_eq_true_eq, decide_eq_false_iff_not, Bool.and_eq_true, Bool.or_eq_true, Bool.and_eq_false_iff, Bool.or_eq_false_iff] at *); (first | (have hl2 : (ho < c1) = False := eq_false (by omega); clear hl; simp [coreD, zero, *]) | (have hl2 : (ho < c1) = True := eq_true (by omega); clear hl; simp [coreD, zero, *])); (try omega); (try (split <;> first | (simp_all; done) | (exfalso; omega))))

theorem step_any (ca cb cc cd ce cf dw ho ci a b c : Int) (d : Bool) (e' door : Int) (bl want : Bool) (w : World) :
    Calls Try.prog 24 #[.agg #[.int .i64 ca, .int .i64 cb, .int .i64 cc, .int .i64 cd, .int .i64 ce, .int .i64 cf, .int .i64 dw, .int .i64 ho, .int .i64 ci], .agg #[.int .i64 a, .int .i64 b, .int .i64 c, .bool d, .int .i64 e'], .int .i64 door, .bool bl, .bool want] w fun e w' => e = .returned (rv (stepD dw ho ⟨a, b, c, d, e'⟩ door bl want)) ∧ Below w.heap.size w w' := by
  by_cases hs : isD ⟨a, b, c, d, e'⟩ = true ∧ a ≠ 0
  · obtain ⟨hd, h0⟩ := hs
    obtain ⟨a1, a2, b0, b1, s0, s1, y0, y1⟩ := isD_bd hd h0
    obtain ⟨q0, q1, q2⟩ := ctd_bd (a := a) (b := b) (d := d) (e' := e') s0 s1
    have := core_any ca cb cc cd ce cf dw ho ci a b c _ d e' door bl want hd (by omega) b0 b1 s0 s1 y0 y1 q0 q1 rfl w
    rw [stepD, if_pos ⟨hd, h0⟩, q2]
    exact this
  · have e1 : stepD dw ho ⟨a, b, c, d, e'⟩ door bl want = if want = true then (⟨1, 0, 0, false, 0⟩, 3) else (zero, 0) := by rw [stepD, if_neg hs]
    rw [e1]
    clear e1
    cases hd : isD ⟨a, b, c, d, e'⟩
    · clear hs
      cases want
      all_goals go_enter Try.func24, Try.ntmps24
      all_goals go_wp2_with ((go_at_call 31; refine (isState_any _ _ _ _ _ _).mono ?_; rintro e w' ⟨rfl, hb⟩; obtain ⟨g, rfl⟩ := ext_of hb; clear hb))
      all_goals go_returns
      all_goals exact ⟨rfl, by (repeat' (first | with_reducible exact Below.refl _ _ | with_reducible assumption | with_reducible refine below_ext ?_ ?_ _ | with_reducible refine Below.alloc ?_ ?_ _ | with_reducible refine Below.drew ?_ | with_reducible exact Nat.le_refl _ | (simp only [World.size_alloc, World.size_setCell, World.size_drew, size_ext]; omega) | (simp; omega)))⟩
    · have h0 : a = 0 := Decidable.byContradiction fun h => hs ⟨hd, h⟩
      subst h0
      have hz : b = 0 ∧ c = 0 ∧ d = false ∧ e' = 0 := by simpa [isD] using hd
      obtain ⟨rfl, rfl, rfl, rfl⟩ := hz
      clear hs
      cases want
      all_goals go_enter Try.func24, Try.ntmps24
      all_goals go_wp2_with ((go_at_call 31; refine (isState_any _ _ _ _ _ _).mono ?_; rintro e w' ⟨rfl, hb⟩; obtain ⟨g, rfl⟩ := ext_of hb; clear hb))
      all_goals go_returns
      all_goals exact ⟨rfl, by (repeat' (first | with_reducible exact Below.refl _ _ | with_reducible assumption | with_reducible refine below_ext ?_ ?_ _ | with_reducible refine Below.alloc ?_ ?_ _ | with_reducible refine Below.drew ?_ | with_reducible exact Nat.le_refl _ | (simp only [World.size_alloc, World.size_setCell, World.size_drew, size_ext]; omega) | (simp; omega)))⟩

theorem skip_any (a b c : Int) (d : Bool) (e' : Int) (w : World) :
    Calls Try.prog 33 #[.agg #[.int .i64 a, .int .i64 b, .int .i64 c, .bool d, .int .i64 e']] w fun e w' => e = .returned (dv (skD ⟨a, b, c, d, e'⟩)) ∧ Below w.heap.size w w' := by
  by_cases hs : isD ⟨a, b, c, d, e'⟩ = true ∧ a ≠ 0
  · obtain ⟨hd, h0⟩ := hs
    obtain ⟨a1, a2, b0, b1, s0, s1, y0, y1⟩ := isD_bd hd h0
    have h0' : (a == 0) = false := by simpa using h0
    have e1 : skD ⟨a, b, c, d, e'⟩ = ⟨a, mo b, (ctd ⟨a, b, c, d, e'⟩).si, d, e'⟩ := by rw [skD, if_pos ⟨hd, h0⟩]
    rw [e1]
    obtain ⟨c1, hc⟩ : ∃ c1, (ctd ⟨a, b, c, d, e'⟩).si = c1 := ⟨_, rfl⟩
    rw [hc]
    have Hc := Lib.hid hc
    clear hc e1 h0
    go_enter Try.func33, Try.ntmps33
    go_wp2_with (first | (go_at_call 31; refine (isState_any _ _ _ _ _ _).mono ?_; rintro e w' ⟨rfl, hb⟩; obtain ⟨g, rfl⟩ := ext_of hb; clear hb) | (go_at_call 45; refine (counted_eq s0 s1 Hc.out _).mono ?_; rintro e w' ⟨rfl, hb⟩; obtain ⟨g, rfl⟩ := ext_of hb; clear hb) | (go_at_call 49; refine (more_any _ b0 b1 _).mono ?_; rintro e w' ⟨rfl, rfl⟩))
    go_returns
    exact ⟨rfl, by (repeat' (first | with_reducible exact Below.refl _ _ | with_reducible assumption | with_reducible refine below_ext ?_ ?_ _ | with_reducible refine Below.alloc ?_ ?_ _ | with_reducible refine Below.drew ?_ | with_reducible exact Nat.le_refl _ | (simp only [World.size_alloc, World.size_setCell, World.size_drew, size_ext]; omega) | (simp; omega)))⟩
  · have e1 : skD ⟨a, b, c, d, e'⟩ = ⟨a, b, c, d, e'⟩ := by rw [skD, if_neg hs]
    rw [e1]
    clear e1
    cases hd : isD ⟨a, b, c, d, e'⟩
    · clear hs
      go_enter Try.func33, Try.ntmps33
      go_wp2_with ((go_at_call 31; refine (isState_any _ _ _ _ _ _).mono ?_; rintro e w' ⟨rfl, hb⟩; obtain ⟨g, rfl⟩ := ext_of hb; clear hb))
      go_returns
      exact ⟨rfl, by (repeat' (first | with_reducible exact Below.refl _ _ | with_reducible assumption | with_reducible refine below_ext ?_ ?_ _ | with_reducible refine Below.alloc ?_ ?_ _ | with_reducible refine Below.drew ?_ | with_reducible exact Nat.le_refl _ | (simp only [World.size_alloc, World.size_setCell, World.size_drew, size_ext]; omega) | (simp; omega)))⟩
    · have h0 : (a == 0) = true := by
        rw [beq_iff_eq]; exact Decidable.byContradiction fun h => hs ⟨hd, h⟩
      clear hs
      go_enter Try.func33, Try.ntmps33
      go_wp2_with ((go_at_call 31; refine (isState_any _ _ _ _ _ _).mono ?_; rintro e w' ⟨rfl, hb⟩; obtain ⟨g, rfl⟩ := ext_of hb; clear hb))
      go_returns
      exact ⟨rfl, by (repeat' (first | with_reducible exact Below.refl _ _ | with_reducible assumption | with_reducible refine below_ext ?_ ?_ _ | with_reducible refine Below.alloc ?_ ?_ _ | with_reducible refine Below.drew ?_ | with_reducible exact Nat.le_refl _ | (simp only [World.size_alloc, World.size_setCell, World.size_drew, size_ext]; omega) | (simp; omega)))⟩
end Go.Proofs.Ytkanaakceokifaa.Do
