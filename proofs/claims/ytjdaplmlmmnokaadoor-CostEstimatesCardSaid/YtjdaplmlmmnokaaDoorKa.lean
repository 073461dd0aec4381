/- Cost: what a path is (own work). -/
import Derived.Test.YtjdaplmlmmnokaaDoorBc
import Derived.Test.YtjdaplmlmmnokaaDoorD2
namespace Go.Proofs.YtjdaplmlmmnokaaDoor.Sp
open Go Sy
set_option linter.unusedVariables false
set_option linter.unusedSimpArgs false
set_option maxRecDepth 10000

/-- The path, out of the lowest and the highest floor. -/
def pv (fr sw fl dr L H : Int) : Int :=
  if sw = 0 ∨ (sw = dr ∧ ((sw = 1 ∧ fl ≥ fr) ∨ (sw = 2 ∧ fl ≤ fr))) then (if fl ≤ fr then fr - fl else fl - fr)
  else if sw ≠ dr ∧ sw = 1 then (H - fr) + (H - fl)
  else if sw ≠ dr then (fr - L) + (fl - L)
  else if sw = 1 then (H - fr) + (H - L) + (fl - L)
  else (fr - L) + (H - L) + (H - fl)
/-- A floor that counts. -/
def Mem (n : Nat) (c u d : Int) (fr fl : Nat) (i : Nat) : Prop := isAt n c u d i = true ∨ i = fr ∨ i = fl
structure HL (n : Nat) (c u d : Int) (fr fl : Nat) (L H : Nat) : Prop where
  h : Mem n c u d fr fl H
  l : Mem n c u d fr fl L
  b : ∀ i, Mem n c u d fr fl i → L ≤ i ∧ i ≤ H
theorem HL.uniq {n : Nat} {c u d : Int} {fr fl L H L' H' : Nat} (a : HL n c u d fr fl L H) (b : HL n c u d fr fl L' H') : L = L' ∧ H = H' := by
  have h1 := a.b _ b.h; have h2 := a.b _ b.l; have h3 := b.b _ a.h; have h4 := b.b _ a.l
  omega
theorem wsub {a b : Int} (ha : 0 ≤ a ∧ a ≤ 40) (hb : 0 ≤ b ∧ b ≤ 40) : IntKind.i64.wrap (a - b) = a - b := wrap_i64_of (by omega) (by omega)
theorem dist_val {a b : Int} (ha : 0 ≤ a ∧ a ≤ 40) (hb : 0 ≤ b ∧ b ≤ 40) : max (IntKind.i64.wrap (a - b)) (IntKind.i64.wrap (b - a)) = if b ≤ a then a - b else b - a := by
  rw [wsub ha hb, wsub hb ha]
  split <;> omega
/-! The way by some floors. -/
theorem way0 (fr fl : Int) : (F21 ([], fr, fl)).1 = IntKind.i64.wrap (0 + max (IntKind.i64.wrap (fl - fr)) (IntKind.i64.wrap (fr - fl))) := by kernel_rfl
theorem way1 (a fr fl : Int) : (F21 ([a], fr, fl)).1 = IntKind.i64.wrap (IntKind.i64.wrap (0 + max (IntKind.i64.wrap (a - fr)) (IntKind.i64.wrap (fr - a))) + max (IntKind.i64.wrap (fl - a)) (IntKind.i64.wrap (a - fl))) := by kernel_rfl
theorem way2 (a b fr fl : Int) : (F21 ([a, b], fr, fl)).1 = IntKind.i64.wrap (IntKind.i64.wrap (IntKind.i64.wrap (0 + max (IntKind.i64.wrap (a - fr)) (IntKind.i64.wrap (fr - a))) + max (IntKind.i64.wrap (b - a)) (IntKind.i64.wrap (a - b))) + max (IntKind.i64.wrap (fl - b)) (IntKind.i64.wrap (b - fl))) := by kernel_rfl
theorem W_setb (x : Int) (k : Int) : W (or32 x (shl32 1 k)) := W_or _ _
section
variable {n : Nat} {c u d : Int}
theorem counted_val (n : Nat) (c u d : Int) : F18 ((n : Int), c, u, d) = (cA n c, cU n u, cD n d) := rfl
/-- The set of all floors that count. -/
abbrev setP (n : Nat) (c u d : Int) (fr fl : Nat) : Int := or32 (or32 (or32 (or32 (cA n c) (cU n u)) (cD n d)) (shl32 1 (fr : Int))) (shl32 1 (fl : Int))
theorem bit_setP (fr fl : Nat) (hfr : fr < 32) (hfl : fl < 32) (i : Nat) (hi : i < 32) : bit (setP n c u d fr fl) i = true ↔ Mem n c u d fr fl i := by
  rw [bit_or (W_or _ _).1 (W_shl _ _).1 i hi, bit_or (W_or _ _).1 (W_shl _ _).1 i hi, bit_or (W_or _ _).1 (W_and _ _).1 i hi, bit_or (W_and _ _).1 (W_and _ _).1 i hi, bit_one fr i hi, bit_one fl i hi]
  unfold Mem isAt
  simp only [Bool.or_eq_true, decide_eq_true_eq, or_assoc]
theorem ends (hn : n ≤ 32) (hc : W c) (hu : W u) (hd : W d) {fr fl : Nat} (hfr : fr < n) (hfl : fl < n) : ∃ L H : Nat, HL n c u d fr fl L H ∧ L < n ∧ H < n ∧
    F19 (setP n c u d fr fl) = (L : Int) ∧ F20 (setP n c u d fr fl) = (H : Int) + 1 := by
  have hW : W (setP n c u d fr fl) := W_or _ _
  have hb : ∀ i, i < 32 → (bit (setP n c u d fr fl) i = true ↔ Mem n c u d fr fl i) := fun i hi => bit_setP fr fl (by omega) (by omega) i hi
  have hm : ∀ i, Mem n c u d fr fl i → i < n := fun i h => by
    rcases h with h | h | h
    · exact isAt_lt hn hc hu hd h
    · omega
    · omega
  have hne : setP n c u d fr fl ≠ 0 := ne_zero_of ((hb fr (by omega)).2 (.inr (.inl rfl)))
  obtain ⟨L, hL, e1, l1, l2⟩ := tz_spec hW hne
  obtain ⟨H, hH, e2, h1, h2⟩ := len_spec hW hne
  have ml := (hb L hL).1 l1
  have mh := (hb H hH).1 h1
  refine ⟨L, H, ⟨mh, ml, fun i hi => ?_⟩, hm _ ml, hm _ mh, e1, e2⟩
  have hin := hm i hi
  have hbi := (hb i (by omega)).2 hi
  constructor
  · rcases Nat.lt_or_ge i L with h | h
    · rw [l2 i h] at hbi; cases hbi
    · exact h
  · rcases Nat.lt_or_ge H i with h | h
    · rw [h2 i h] at hbi; cases hbi
    · exact h
/-- A proper call. -/
def Cl (n fl dr : Int) : Prop := (dr = 1 ∧ 0 ≤ fl ∧ fl + 1 < n) ∨ (dr = 2 ∧ 0 < fl ∧ fl < n)
set_option maxHeartbeats 2000000 in
theorem path_val (hn2 : 2 ≤ n) (hn : n ≤ 32) (hc : W c) (hu : W u) (hd : W d) {fr fl : Nat} (hfr : fr < n) {sw dr : Int} (hs : 0 ≤ sw ∧ sw ≤ 2) (hcl : Cl n fl dr) :
    ∃ L H : Nat, HL n c u d fr fl L H ∧ L < n ∧ H < n ∧ F7 ((n : Int), (fr : Int), sw, (c, u, d), (fl : Int), dr) = pv fr sw fl dr L H := by
  have hfl : fl < n := by unfold Cl at hcl; omega
  obtain ⟨L, H, hl, hLn, hHn, e1, e2⟩ := ends hn hc hu hd hfr hfl
  refine ⟨L, H, hl, hLn, hHn, ?_⟩
  have k1 : K7_1 ((n : Int), (fr : Int), sw, (c, u, d), (fl : Int), dr) = (L : Int) := e1
  have k2 : K7_2 ((n : Int), (fr : Int), sw, (c, u, d), (fl : Int), dr) = (H : Int) + 1 := e2
  unfold F7
  simp only
  have g : ((((((!(F16 (n : Int))) || (decide ((fr : Int) < (0 : Int)))) || (decide ((fr : Int) ≥ (n : Int)))) || (decide (sw < (0 : Int)))) || (decide (sw > (2 : Int)))) || (!(F17 ((n : Int), (fl : Int), dr)))) = false := by
    unfold F16 F17
    unfold Cl at hcl
    simp only [Bool.or_eq_false_iff, Bool.not_eq_false', Bool.and_eq_true, Bool.or_eq_true, decide_eq_true_eq, decide_eq_false_iff_not, beq_iff_eq]
    rw [wrap_i64_of (x := (n : Int) - 1) (by omega) (by omega)]
    omega
  rw [g, cond_false, k1, k2, wrap_i64_of (x := (H : Int) + 1 - 1) (by omega) (by omega), way0, way1, way1, way2, way2]
  have bfr := hl.b fr (.inr (.inl rfl)); have bfl := hl.b fl (.inr (.inr rfl))
  have r1 : (0 : Int) ≤ fr ∧ (fr : Int) ≤ 40 := by omega
  have r2 : (0 : Int) ≤ fl ∧ (fl : Int) ≤ 40 := by omega
  have r3 : (0 : Int) ≤ L ∧ (L : Int) ≤ 40 := by omega
  have r4 : (0 : Int) ≤ (H : Int) + 1 - 1 ∧ (H : Int) + 1 - 1 ≤ 40 := by omega
  rw [dist_val r2 r1, dist_val r4 r1, dist_val r2 r4, dist_val r3 r1, dist_val r2 r3, dist_val r3 r4, dist_val r4 r3]
  have w : ∀ x : Int, 0 ≤ x → x ≤ 200 → IntKind.i64.wrap x = x := fun x h1 h2 => wrap_i64_of (by omega) (by omega)
  have d1 : (if (fr : Int) ≤ (fl : Int) then (fl : Int) - fr else fr - fl) = (if (fl : Int) ≤ fr then (fr : Int) - fl else fl - fr) := by split <;> split <;> omega
  have d2 : (if (fr : Int) ≤ (H : Int) + 1 - 1 then (H : Int) + 1 - 1 - fr else (fr : Int) - ((H : Int) + 1 - 1)) = (H : Int) - fr := by rw [if_pos (by omega)]; omega
  have d3 : (if (H : Int) + 1 - 1 ≤ (fl : Int) then (fl : Int) - ((H : Int) + 1 - 1) else (H : Int) + 1 - 1 - fl) = (H : Int) - fl := by split <;> omega
  have d4 : (if (fr : Int) ≤ (L : Int) then (L : Int) - fr else (fr : Int) - L) = (fr : Int) - L := by split <;> omega
  have d5 : (if (L : Int) ≤ (fl : Int) then (fl : Int) - L else (L : Int) - fl) = (fl : Int) - L := by rw [if_pos (by omega)]
  have d6 : (if (H : Int) + 1 - 1 ≤ (L : Int) then (L : Int) - ((H : Int) + 1 - 1) else (H : Int) + 1 - 1 - L) = (H : Int) - L := by split <;> omega
  have d7 : (if (L : Int) ≤ (H : Int) + 1 - 1 then (H : Int) + 1 - 1 - L else (L : Int) - ((H : Int) + 1 - 1)) = (H : Int) - L := by split <;> omega
  rw [d1, d2, d3, d4, d5, d6, d7]
  unfold pv
  unfold Cl at hcl
  have hsw : sw = 0 ∨ sw = 1 ∨ sw = 2 := by omega
  have hdr : dr = 1 ∨ dr = 2 := by omega
  have hq : 0 ≤ (if (fl : Int) ≤ fr then (fr : Int) - fl else fl - fr) ∧ (if (fl : Int) ≤ fr then (fr : Int) - fl else fl - fr) ≤ 40 := by split <;> omega
  generalize hQ : (if (fl : Int) ≤ fr then (fr : Int) - fl else fl - fr) = Q at hq
  simp only [Int.zero_add]
  rw [w Q (by omega) (by omega), w ((H : Int) - fr) (by omega) (by omega), w ((fr : Int) - L) (by omega) (by omega), w ((H : Int) - fr + ((H : Int) - fl)) (by omega) (by omega), w ((fr : Int) - L + ((fl : Int) - L)) (by omega) (by omega),
    w ((H : Int) - fr + ((H : Int) - L)) (by omega) (by omega), w ((fr : Int) - L + ((H : Int) - L)) (by omega) (by omega), w ((H : Int) - fr + ((H : Int) - L) + ((fl : Int) - L)) (by omega) (by omega), w ((fr : Int) - L + ((H : Int) - L) + ((H : Int) - fl)) (by omega) (by omega)]
  rcases hsw with rfl | rfl | rfl <;> rcases hdr with rfl | rfl
  all_goals first
    | rfl
    | (rcases Int.lt_trichotomy fl fr with h | h | h
       · rw [show decide ((fl : Int) ≥ fr) = false from by simp; omega, show decide ((fl : Int) ≤ fr) = true from by simp; omega]
         simp <;> omega
       · rw [show decide ((fl : Int) ≥ fr) = true from by simp; omega, show decide ((fl : Int) ≤ fr) = true from by simp; omega]
         simp <;> omega
       · rw [show decide ((fl : Int) ≥ fr) = true from by simp; omega, show decide ((fl : Int) ≤ fr) = false from by simp; omega]
         simp <;> omega)
/-- More stops. -/
theorem pv_mono {fr sw fl dr L H L' H' : Int} (h1 : L ≤ fr ∧ fr ≤ H) (h2 : L ≤ fl ∧ fl ≤ H) (hL : L' ≤ L) (hH : H ≤ H') : pv fr sw fl dr L H ≤ pv fr sw fl dr L' H' := by
  unfold pv
  repeat' split
  all_goals omega
theorem pv_bounds {n fr sw fl dr L H : Int} (h1 : L ≤ fr ∧ fr ≤ H) (h2 : L ≤ fl ∧ fl ≤ H) (h0 : 0 ≤ L) (hn : H < n) : fl - fr ≤ pv fr sw fl dr L H ∧ fr - fl ≤ pv fr sw fl dr L H ∧ pv fr sw fl dr L H ≤ 3 * n := by
  unfold pv
  repeat' split
  all_goals omega
theorem HL.mono {c' u' d' : Int} {fr fl L H L' H' : Nat} (a : HL n c u d fr fl L H) (b : HL n c' u' d' fr fl L' H') (h : ∀ i, isAt n c u d i = true → isAt n c' u' d' i = true) : L' ≤ L ∧ H ≤ H' := by
  have hm : ∀ i, Mem n c u d fr fl i → Mem n c' u' d' fr fl i := fun i hi => by
    rcases hi with hi | hi
    · exact .inl (h i hi)
    · exact .inr hi
  have h1 := b.b _ (hm _ a.h); have h2 := b.b _ (hm _ a.l)
  omega
end
theorem sane_true : F11 () = true := by kernel_rfl
end Go.Proofs.YtjdaplmlmmnokaaDoor.Sp
