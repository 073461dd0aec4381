/- Collective: the choice as a function of six answers, and what it does wherever a stop is (own work). -/
import Derived.Test.YtidnlehjabhclaaDoorCd
namespace Go.Proofs.YtidnlehjabhclaaDoor.Sp
open Go Sy
set_option linter.unusedVariables false
set_option linter.unusedSimpArgs false
set_option maxRecDepth 10000

/-- The choice out of what counts. -/
def chR (dir : Int) (c u d a b l : Bool) : Int × Int × Int :=
  bif dir == 1 then (bif (F33 (1, 2, c, u, d, a, b)).2 then (F33 (1, 2, c, u, d, a, b)).1 else F34 (2, d, b))
  else bif dir == 2 then (bif (F33 (2, 1, c, d, u, b, a)).2 then (F33 (2, 1, c, d, u, b, a)).1 else F34 (1, u, a))
  else bif u then F35 1 else bif d then F35 2 else bif c then F35 (bif a && (!b || l) then 1 else bif b then 2 else 0) else F36 (bif a && (!b || l) then 1 else bif b then 2 else 0)
/-- What counts as opened. -/
def chO (o : Int) (A U D a b : Bool) : Int := bif ((((A && (!(A && (o != 0)))) || (U && (!(U && m2 o)))) || (D && (!(D && m3 o)))) || a) || b then o else 0
def ch (dir o : Int) (A U D a b l : Bool) : Int × Int × Int :=
  chR dir (A && !(A && (chO o A U D a b != 0))) (U && !(U && m2 (chO o A U D a b))) (D && !(D && m3 (chO o A U D a b))) a b l
/-- The state behind it. -/
def chN (dir o : Int) (A U D a b l : Bool) : Int × Int :=
  bif (ch dir o A U D a b l).1 == 3 then ((ch dir o A U D a b l).2.1, (IntKind.i64.wrap ((BitVec.ofInt IntKind.i64.bits (chO o A U D a b) ||| BitVec.ofInt IntKind.i64.bits (IntKind.i64.wrap ((1 : Int) * (2 ^ (min (IntKind.u64.wrap (ch dir o A U D a b l).2.2).toNat IntKind.i64.bits))))).toNat : Int))) else ((ch dir o A U D a b l).2.1, 0)

section
variable {n f : Nat} {dir o c u d : Int}
theorem choose_ch (h : Ok n f dir o c u d) : ∃ ab be, Sc n f o c u d ab be ∧ F18 ((n : Int), (dir, o), (f : Int), c, u, d) =
    (ch dir o (bit (cA n c) f) (bit (cU n u) f) (bit (cD n d) f) (decide (0 < ab)) (decide (0 < be)) (decide (be ≥ ab)), chO o (bit (cA n c) f) (bit (cU n u) f) (bit (cD n d) f) (decide (0 < ab)) (decide (0 < be))) := by
  obtain ⟨ab, be, s, hv⟩ := scene h
  refine ⟨ab, be, s, ?_⟩
  unfold F18
  rw [hv]
  simp only
  have hd : dir = 0 ∨ dir = 1 ∨ dir = 2 := by have := h.dir; omega
  refine Prod.ext ?_ rfl
  rcases hd with rfl | rfl | rfl
  · rw [rules0, resting_ref _ _ _ _ _ _ s.ab.nn s.be.nn]; rfl
  · rw [rules1, rising_ref]; rfl
  · rw [rules2, falling_ref]; rfl
theorem Choose_ch (h : Ok n f dir o c u d) : ∃ ab be, Sc n f o c u d ab be ∧
    F9 ((n : Int), (dir, o), (f : Int), c, u, d) = ch dir o (bit (cA n c) f) (bit (cU n u) f) (bit (cD n d) f) (decide (0 < ab)) (decide (0 < be)) (decide (be ≥ ab)) ∧
    F14 ((n : Int), (dir, o), (f : Int), c, u, d) = chN dir o (bit (cA n c) f) (bit (cU n u) f) (bit (cD n d) f) (decide (0 < ab)) (decide (0 < be)) (decide (be ≥ ab)) := by
  obtain ⟨ab, be, s, hv⟩ := choose_ch h
  have hb := choose_bd ((n : Int), (dir, o), (f : Int), c, u, d) h.dir.1 h.dir.2
  refine ⟨ab, be, s, ?_, ?_⟩
  · unfold F9
    simp only
    rw [h.proper, hv]; rfl
  · unfold F14 chN
    simp only
    rw [h.proper, hv]
    rw [hv] at hb
    simp only at hb ⊢
    generalize hC : ch dir o (bit (cA n c) f) (bit (cU n u) f) (bit (cD n d) f) (decide (0 < ab)) (decide (0 < be)) (decide (be ≥ ab)) = C at hb ⊢
    rw [wrap_u64_of (x := C.2.2) (by omega) (by omega), Bool.not_true, cond_false]
    cases h3 : (C.1 == 3) with
    | true => rw [show (C.1 != 3) = false from by rw [bne, h3]; rfl]; rfl
    | false => rw [show (C.1 != 3) = true from by rw [bne, h3]; rfl]; rfl
/-- Above and below. -/
theorem Sc.up_iff {ab be : Int} (s : Sc n f o c u d ab be) : (decide (0 < ab) = true) ↔ ∃ i, f < i ∧ bit (cS (cA n c) (cU n u) (cD n d)) i = true := by
  rw [decide_eq_true_eq]
  rcases s.ab with ⟨h1, h2⟩ | ⟨k, h1, h2, _, h4⟩
  · exact ⟨fun h => by omega, fun ⟨i, hi, hb⟩ => by rw [h2 i hi] at hb; cases hb⟩
  · exact ⟨fun _ => ⟨k, h1, h2⟩, fun _ => by omega⟩
theorem Sc.down_iff {ab be : Int} (s : Sc n f o c u d ab be) : (decide (0 < be) = true) ↔ ∃ i, i < f ∧ bit (cS (cA n c) (cU n u) (cD n d)) i = true := by
  rw [decide_eq_true_eq]
  rcases s.be with ⟨h1, h2⟩ | ⟨k, h1, h2, _, h4⟩
  · exact ⟨fun h => by omega, fun ⟨i, hi, hb⟩ => by rw [h2 i hi] at hb; cases hb⟩
  · exact ⟨fun _ => ⟨k, h1, h2⟩, fun _ => by omega⟩
theorem bit_cA (hn : n ≤ 32) (hc : W c) (i : Nat) : bit (cA n c) i = (bit c i && decide (i < n)) := by
  rcases Nat.lt_or_ge i 32 with hi | hi
  · rw [bit_and hc.1 (W_allm _).1 i hi, bit_allm n i hn]
  · rw [bit_hi (W_and _ _) hi, bit_hi hc hi, Bool.false_and]
theorem bit_cU (hn : n ≤ 32) (hu : W u) (i : Nat) : bit (cU n u) i = (bit u i && decide (i + 1 < n)) := by
  rcases Nat.lt_or_ge i 32 with hi | hi
  · have e : bit (shr32 (allm (n : Int)) 1) i = bit (allm (n : Int)) (1 + i) := bit_shr (W_allm _) 1 i
    rw [bit_and hu.1 (W_shr (W_allm _) _ (by omega)).1 i hi, e, bit_allm n _ hn, Nat.add_comm 1 i]
  · rw [bit_hi (W_and _ _) hi, bit_hi hu hi, Bool.false_and]
theorem bit_cD (hn : n ≤ 32) (hd : W d) (i : Nat) : bit (cD n d) i = (bit d i && decide (0 < i ∧ i < n)) := by
  rcases Nat.lt_or_ge i 32 with hi | hi
  · rw [bit_and hd.1 (W_nand _ _).1 i hi, bit_nand (W_allm _).1 (by omega) i hi, bit_allm n _ hn, bit1 i hi]
    congr 1
    rw [Bool.eq_iff_iff]; simp; omega
  · rw [bit_hi (W_and _ _) hi, bit_hi hd hi, Bool.false_and]
end

/-! What the choice does, at every combination. -/
set_option synthInstance.maxHeartbeats 400000
set_option synthInstance.maxSize 4096
theorem S1 : ∀ dir, dir < 3 → ∀ o, o < 8 → ∀ A U D a b l : Bool, (a || b) = true →
    (ch ((dir : Nat) : Int) ((o : Nat) : Int) A U D a b l = (1, 1, 0) ∧ a = true ∧ ¬ (dir = 2 ∧ b = true) ∧ chN dir o A U D a b l = (1, 0)) ∨
    (ch dir o A U D a b l = (2, 2, 0) ∧ b = true ∧ ¬ (dir = 1 ∧ a = true) ∧ chN dir o A U D a b l = (2, 0)) ∨
    (ch dir o A U D a b l = (3, 1, 1) ∧ o % 4 < 2 ∧ ¬ (dir = 2 ∧ b = true) ∧ chN dir o A U D a b l = (1, (o : Int) + 2)) ∨
    (ch dir o A U D a b l = (3, 2, 2) ∧ o < 4 ∧ ¬ (dir = 1 ∧ a = true) ∧ chN dir o A U D a b l = (2, (o : Int) + 4)) := by decide +kernel
theorem S2u : ∀ dir, dir < 3 → ∀ o, o < 8 → ∀ A D a b l : Bool,
    ch ((dir : Nat) : Int) ((o : Nat) : Int) A true D a b l = (3, 1, 1) ∨
    (¬ (o % 4 < 2 ∧ dir ≠ 2) ∧ ch dir o A true D a b l = (3, 2, 2) ∧ o < 4 ∧ chN dir o A true D a b l = (2, (o : Int) + 4)) ∨
    (¬ (o % 4 < 2) ∧ ¬ (o < 4) ∧ ch dir o A true D a b l = (3, 2, 2) ∧ chN dir o A true D a b l = (2, 4)) ∨
    (¬ (o % 4 < 2 ∧ dir ≠ 2) ∧ ch dir o A true D a b l = (2, 2, 0) ∧ b = true ∧ chN dir o A true D a b l = (2, 0)) ∨
    (¬ (o % 4 < 2) ∧ ch dir o A true D a b l = (1, 1, 0) ∧ a = true ∧ chN dir o A true D a b l = (1, 0)) := by decide +kernel
theorem S2d : ∀ dir, dir < 3 → ∀ o, o < 8 → ∀ A U a b l : Bool,
    ch ((dir : Nat) : Int) ((o : Nat) : Int) A U true a b l = (3, 2, 2) ∨
    (¬ (o < 4 ∧ dir = 2) ∧ ch dir o A U true a b l = (3, 1, 1) ∧ o % 4 < 2 ∧ chN dir o A U true a b l = (1, (o : Int) + 2)) ∨
    (¬ (o < 4) ∧ ¬ (o % 4 < 2) ∧ ch dir o A U true a b l = (3, 1, 1) ∧ chN dir o A U true a b l = (1, 2)) ∨
    (¬ (o < 4 ∧ dir ≠ 1) ∧ ch dir o A U true a b l = (1, 1, 0) ∧ a = true ∧ chN dir o A U true a b l = (1, 0)) ∨
    (¬ (o < 4) ∧ ch dir o A U true a b l = (2, 2, 0) ∧ b = true ∧ chN dir o A U true a b l = (2, 0)) := by decide +kernel
theorem S3 : ∀ dir, dir < 3 → ∀ o, o < 8 → ∀ U D a b l : Bool,
    (ch ((dir : Nat) : Int) ((o : Nat) : Int) true U D a b l).1 = 3 ∨
    (o ≠ 0 ∧ ch dir o true U D a b l = (2, 2, 0) ∧ b = true ∧ chN dir o true U D a b l = (2, 0)) ∨
    (o ≠ 0 ∧ ch dir o true U D a b l = (1, 1, 0) ∧ a = true ∧ chN dir o true U D a b l = (1, 0)) := by decide +kernel
/-- What a move is for. -/
def okM (t e a b A U D : Bool) (o : Nat) (c : Int × Int × Int) : Bool :=
  (c.1 == 1 && (a && c.2.1 == 1 && c.2.2 == 0)) || (c.1 == 2 && (b && c.2.1 == 2 && c.2.2 == 0)) ||
  (c.1 == 3 && ((A || U || D) && c.2.1 == c.2.2 && !(c.2.2 == 1 && t) && !(c.2.2 == 2 && e) && !((a || b) && o.testBit c.2.2.toNat) && (0 ≤ c.2.2 && c.2.2 ≤ 2))) ||
  (c.1 == 0 && (!(A || U || D) && !a && !b && c == (0, 0, 0)))
theorem S4 : ∀ dir, dir < 3 → ∀ o, o < 8 → ∀ t e A U D a b l : Bool, (t && (U || a)) = false → (e && (D || b)) = false → okM t e a b A U D o (ch ((dir : Nat) : Int) ((o : Nat) : Int) A U D a b l) = true := by decide +kernel
/-- Up and down are alike. -/
def mirD (d : Int) : Int := bif d == 1 then 2 else bif d == 2 then 1 else d
def mirO (o : Nat) : Nat := o % 2 + (o / 2 % 2) * 4 + (o / 4 % 2) * 2
theorem S5 : ∀ o, o < 8 → ∀ A U D a b l l' : Bool,
    ch 2 ((mirO o : Nat) : Int) A D U b a l' = (mirD (ch 1 ((o : Nat) : Int) A U D a b l).1, mirD (ch 1 o A U D a b l).2.1, mirD (ch 1 o A U D a b l).2.2) ∧
    ch 1 (mirO o) A D U b a l' = (mirD (ch 2 o A U D a b l).1, mirD (ch 2 o A U D a b l).2.1, mirD (ch 2 o A U D a b l).2.2) := by decide +kernel
theorem S6 : ∀ dir, dir < 3 → ∀ o, o < 8 → ∀ A U D a b l : Bool,
    0 ≤ (ch ((dir : Nat) : Int) ((o : Nat) : Int) A U D a b l).1 ∧ (ch ((dir : Nat) : Int) ((o : Nat) : Int) A U D a b l).1 ≤ 3 ∧ 0 ≤ (ch ((dir : Nat) : Int) ((o : Nat) : Int) A U D a b l).2.1 ∧ (ch ((dir : Nat) : Int) ((o : Nat) : Int) A U D a b l).2.1 ≤ 2 ∧ 0 ≤ (ch ((dir : Nat) : Int) ((o : Nat) : Int) A U D a b l).2.2 ∧ (ch ((dir : Nat) : Int) ((o : Nat) : Int) A U D a b l).2.2 ≤ 2 := by decide +kernel
end Go.Proofs.YtidnlehjabhclaaDoor.Sp
