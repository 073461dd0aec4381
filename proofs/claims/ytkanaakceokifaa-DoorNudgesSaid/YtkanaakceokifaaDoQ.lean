/- The reference of package door: a tick; that program and reference agree; the sanity check. -/
import Derived.Test.YtkanaakceokifaaDoR
namespace Go.Proofs.Ytkanaakceokifaa.Do
open Go.RowKit Go.Proofs.Ytkanaakceokifaa
set_option linter.unusedSimpArgs false
set_option linter.unusedVariables false

theorem rstep_any (ca cb cc cd ce cf dw ho ci a b c : Int) (d : Bool) (e' door : Int) (bl want : Bool) (w : World) :
    Calls Try.prog 25 #[.agg #[.int .i64 ca, .int .i64 cb, .int .i64 cc, .int .i64 cd, .int .i64 ce, .int .i64 cf, .int .i64 dw, .int .i64 ho, .int .i64 ci], .agg #[.int .i64 a, .int .i64 b, .int .i64 c, .bool d, .int .i64 e'], .int .i64 door, .bool bl, .bool want] w fun e w' => e = .returned (rv (stepD dw ho ⟨a, b, c, d, e'⟩ door bl want)) ∧ Below w.heap.size w w' := by
  by_cases hs : isD ⟨a, b, c, d, e'⟩ = true ∧ a ≠ 0
  · obtain ⟨hd, h0⟩ := hs
    obtain ⟨a1, a2, b0, b1, s0, s1, y0, y1⟩ := isD_bd hd h0
    rw [stepD, if_pos ⟨hd, h0⟩]
    by_cases hc : c = 0
    · subst hc
      exact rcore_zero ca cb cc cd ce cf dw ho ci a b d e' door bl want hd (by omega) b0 b1 y0 y1 w
    · have e1 : ctd ⟨a, b, c, d, e'⟩ = ⟨a, b, mo c, d, e'⟩ := by unfold ctd; simp [hc]
      rw [e1]
      exact rcore_more ca cb cc cd ce cf dw ho ci a b c d e' door bl want hd (by omega) b0 b1 (by omega) s1 y0 y1 w
  · have e1 : stepD dw ho ⟨a, b, c, d, e'⟩ door bl want = if want = true then (⟨1, 0, 0, false, 0⟩, 3) else (zero, 0) := by rw [stepD, if_neg hs]
    rw [e1]
    clear e1
    cases hd : isD ⟨a, b, c, d, e'⟩
    · clear hs
      cases want
      all_goals go_enter Try.func25, Try.ntmps25
      all_goals go_wp2_with (first | (go_at_call 32; refine (risState_any _ _ _ _ _ _).mono ?_; rintro e w' ⟨rfl, hb⟩; obtain ⟨g, rfl⟩ := ext_of hb; clear hb) | (go_at_call 50; refine (rto_any _ _ _ _ _ _ _).mono ?_; rintro e w' ⟨rfl, hb⟩; obtain ⟨g, rfl⟩ := ext_of hb; clear hb))
      all_goals go_returns
      all_goals exact ⟨rfl, by (repeat' (first | with_reducible exact Below.refl _ _ | with_reducible assumption | with_reducible refine below_ext ?_ ?_ _ | with_reducible refine Below.alloc ?_ ?_ _ | with_reducible refine Below.drew ?_ | with_reducible exact Nat.le_refl _ | (simp only [World.size_alloc, World.size_setCell, World.size_drew, size_ext]; omega) | (simp; omega)))⟩
    · have h0 : a = 0 := Decidable.byContradiction fun h => hs ⟨hd, h⟩
      subst h0
      have hz : b = 0 ∧ c = 0 ∧ d = false ∧ e' = 0 := by simpa [isD] using hd
      obtain ⟨rfl, rfl, rfl, rfl⟩ := hz
      clear hs
      cases want
      all_goals go_enter Try.func25, Try.ntmps25
      all_goals go_wp2_with (first | (go_at_call 32; refine (risState_any _ _ _ _ _ _).mono ?_; rintro e w' ⟨rfl, hb⟩; obtain ⟨g, rfl⟩ := ext_of hb; clear hb) | (go_at_call 50; refine (rto_any _ _ _ _ _ _ _).mono ?_; rintro e w' ⟨rfl, hb⟩; obtain ⟨g, rfl⟩ := ext_of hb; clear hb))
      all_goals go_returns
      all_goals exact ⟨rfl, by (repeat' (first | with_reducible exact Below.refl _ _ | with_reducible assumption | with_reducible refine below_ext ?_ ?_ _ | with_reducible refine Below.alloc ?_ ?_ _ | with_reducible refine Below.drew ?_ | with_reducible exact Nat.le_refl _ | (simp only [World.size_alloc, World.size_setCell, World.size_drew, size_ext]; omega) | (simp; omega)))⟩

theorem rskip_any (a b c : Int) (d : Bool) (e' : Int) (w : World) :
    Calls Try.prog 34 #[.agg #[.int .i64 a, .int .i64 b, .int .i64 c, .bool d, .int .i64 e']] w fun e w' => e = .returned (dv (skD ⟨a, b, c, d, e'⟩)) ∧ Below w.heap.size w w' := by
  by_cases hs : isD ⟨a, b, c, d, e'⟩ = true ∧ a ≠ 0
  · obtain ⟨hd, h0⟩ := hs
    obtain ⟨a1, a2, b0, b1, s0, s1, y0, y1⟩ := isD_bd hd h0
    have h0' : (a == 0) = false := by simpa using h0
    have e1 : skD ⟨a, b, c, d, e'⟩ = ⟨a, mo b, if c ≠ 0 then mo c else c, d, e'⟩ := by rw [skD, if_pos ⟨hd, h0⟩]; unfold ctd; by_cases hc : c = 0 <;> simp [hc]
    rw [e1]
    clear e1 h0
    by_cases hc : 0 < c
    all_goals go_enter Try.func34, Try.ntmps34
    all_goals go_wp2_with (first | (go_at_call 32; refine (risState_any _ _ _ _ _ _).mono ?_; rintro e w' ⟨rfl, hb⟩; obtain ⟨g, rfl⟩ := ext_of hb; clear hb) | (go_at_call 51; (with_reducible refine (rmore_any b b0 b1 _).mono ?_); rintro e w' ⟨rfl, rfl⟩) | (go_at_call 51; (with_reducible refine (rmore_any c s0 s1 _).mono ?_); rintro e w' ⟨rfl, rfl⟩))
    all_goals go_returns
    all_goals exact ⟨rfl, by (repeat' (first | with_reducible exact Below.refl _ _ | with_reducible assumption | with_reducible refine below_ext ?_ ?_ _ | with_reducible refine Below.alloc ?_ ?_ _ | with_reducible refine Below.drew ?_ | with_reducible exact Nat.le_refl _ | (simp only [World.size_alloc, World.size_setCell, World.size_drew, size_ext]; omega) | (simp; omega)))⟩
  · have e1 : skD ⟨a, b, c, d, e'⟩ = ⟨a, b, c, d, e'⟩ := by rw [skD, if_neg hs]
    rw [e1]
    clear e1
    cases hd : isD ⟨a, b, c, d, e'⟩
    · clear hs
      go_enter Try.func34, Try.ntmps34
      go_wp2_with ((go_at_call 32; refine (risState_any _ _ _ _ _ _).mono ?_; rintro e w' ⟨rfl, hb⟩; obtain ⟨g, rfl⟩ := ext_of hb; clear hb))
      go_returns
      exact ⟨rfl, by (repeat' (first | with_reducible exact Below.refl _ _ | with_reducible assumption | with_reducible refine below_ext ?_ ?_ _ | with_reducible refine Below.alloc ?_ ?_ _ | with_reducible refine Below.drew ?_ | with_reducible exact Nat.le_refl _ | (simp only [World.size_alloc, World.size_setCell, World.size_drew, size_ext]; omega) | (simp; omega)))⟩
    · have h0 : (a == 0) = true := by
        rw [beq_iff_eq]; exact Decidable.byContradiction fun h => hs ⟨hd, h⟩
      clear hs
      go_enter Try.func34, Try.ntmps34
      go_wp2_with ((go_at_call 32; refine (risState_any _ _ _ _ _ _).mono ?_; rintro e w' ⟨rfl, hb⟩; obtain ⟨g, rfl⟩ := ext_of hb; clear hb))
      go_returns
      exact ⟨rfl, by (repeat' (first | with_reducible exact Below.refl _ _ | with_reducible assumption | with_reducible refine below_ext ?_ ?_ _ | with_reducible refine Below.alloc ?_ ?_ _ | with_reducible refine Below.drew ?_ | with_reducible exact Nat.le_refl _ | (simp only [World.size_alloc, World.size_setCell, World.size_drew, size_ext]; omega) | (simp; omega)))⟩
end Go.Proofs.Ytkanaakceokifaa.Do
