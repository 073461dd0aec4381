/- Collective: the program's and the reference's scene (own work). -/
import Derived.Test.YtidnlehjabhclaaDoorBs
import Derived.Test.YtidnlehjabhclaaDoorE7
namespace Go.Proofs.YtidnlehjabhclaaDoor.Sp
open Go Sy
set_option linter.unusedVariables false
set_option linter.unusedSimpArgs false
set_option maxRecDepth 10000

abbrev cA (n : Nat) (c : Int) : Int := and32 c (allm (n : Int))
abbrev cU (n : Nat) (u : Int) : Int := and32 u (shr32 (allm (n : Int)) 1)
abbrev cD (n : Nat) (d : Int) : Int := and32 d (nand32 (allm (n : Int)) 1)
abbrev cS (A U D : Int) : Int := or32 (or32 A U) D
theorem W_cS (A U D : Int) : W (cS A U D) := W_or _ _
theorem bit_cS {A U D : Int} (hA : W A) (hU : W U) (hD : W D) (i : Nat) (hi : i < 32) : bit (cS A U D) i = (bit A i || bit U i || bit D i) := by
  rw [bit_or (W_or _ _).1 hD.1 i hi, bit_or hA.1 hU.1 i hi]
theorem and_zero {a : Int} (ha : W a) : and32 a 0 = 0 := W.ext (W_and _ _) W.zero fun i hi => by rw [bit_and ha.1 (by omega) i hi, bit_zero, Bool.and_false]
theorem has_up {U D : Int} (hU : W U) (hD : W D) (f : Nat) (hf : f < 32) : F40 ((U, D), (f : Int), 1) = bit U f := by
  have h1 : F48 ((f : Int), 1) = (shl32 1 (f : Int), 0) := by
    unfold F48
    have : (decide ((f : Int) ≥ 0) && decide ((f : Int) < 32)) = true := by simp; omega
    rw [this]; rfl
  unfold F40
  rw [h1]
  show (!((and32 U (shl32 1 (f : Int)) == 0) && (and32 D 0 == 0))) = _
  rw [and_zero hD, and_shl hU f hf]
  cases hb : bit U f with
  | false => rfl
  | true =>
    rw [cond_true]
    have : shl32 1 (f : Int) ≠ 0 := ne_zero_of (i := f) (by rw [bit_one f f hf]; simp)
    simp [this]
theorem has_down {U D : Int} (hU : W U) (hD : W D) (f : Nat) (hf : f < 32) : F40 ((U, D), (f : Int), 2) = bit D f := by
  have h1 : F48 ((f : Int), 2) = (0, shl32 1 (f : Int)) := by
    unfold F48
    have : (decide ((f : Int) ≥ 0) && decide ((f : Int) < 32)) = true := by simp; omega
    rw [this]; rfl
  unfold F40
  rw [h1]
  show (!((and32 U 0 == 0) && (and32 D (shl32 1 (f : Int)) == 0))) = _
  rw [and_zero hU, and_shl hD f hf]
  cases hb : bit D f with
  | false => rfl
  | true =>
    rw [cond_true]
    have : shl32 1 (f : Int) ≠ 0 := ne_zero_of (i := f) (by rw [bit_one f f hf]; simp)
    simp [this]

theorem look_eq (n f : Nat) (w : Int × Int) (c u d : Int) : F26 ((n : Int), w, (f : Int), c, u, d) =
    bif (shr32 (shr32 (cS (cA n c) (cU n u) (cD n d)) (f : Int)) 1 != 0) then
      (bif (and32 (cS (cA n c) (cU n u) (cD n d)) (allm (f : Int)) != 0) then
        (and32 (shr32 c (f : Int)) 1 == 1, F40 ((cU n u, cD n d), (f : Int), 1), F40 ((cU n u, cD n d), (f : Int), 2), IntKind.i64.wrap (1 + F41 (shr32 (shr32 (cS (cA n c) (cU n u) (cD n d)) (f : Int)) 1)), IntKind.i64.wrap (IntKind.i64.wrap ((f : Int) - F42 (and32 (cS (cA n c) (cU n u) (cD n d)) (allm (f : Int)))) + 1), w.2)
      else (and32 (shr32 c (f : Int)) 1 == 1, F40 ((cU n u, cD n d), (f : Int), 1), F40 ((cU n u, cD n d), (f : Int), 2), IntKind.i64.wrap (1 + F41 (shr32 (shr32 (cS (cA n c) (cU n u) (cD n d)) (f : Int)) 1)), 0, w.2))
    else
      bif (and32 (cS (cA n c) (cU n u) (cD n d)) (allm (f : Int)) != 0) then
        (and32 (shr32 c (f : Int)) 1 == 1, F40 ((cU n u, cD n d), (f : Int), 1), F40 ((cU n u, cD n d), (f : Int), 2), 0, IntKind.i64.wrap (IntKind.i64.wrap ((f : Int) - F42 (and32 (cS (cA n c) (cU n u) (cD n d)) (allm (f : Int)))) + 1), w.2)
      else (and32 (shr32 c (f : Int)) 1 == 1, F40 ((cU n u, cD n d), (f : Int), 1), F40 ((cU n u, cD n d), (f : Int), 2), 0, 0, w.2) := by kernel_rfl
theorem look_val (n f : Nat) (hn : n ≤ 32) (hf : f < n) (w : Int × Int) (c u d : Int) (hc : W c) : ∃ ab be, AboveS (cS (cA n c) (cU n u) (cD n d)) f ab ∧ BelowS (cS (cA n c) (cU n u) (cD n d)) f be ∧
    F26 ((n : Int), w, (f : Int), c, u, d) = (bit (cA n c) f, bit (cU n u) f, bit (cD n d) f, ab, be, w.2) := by
  rw [look_eq, ask_bit hc f, has_up (W_and _ _) (W_and _ _) f (by omega), has_down (W_and _ _) (W_and _ _) f (by omega)]
  have hcA : bit c f = bit (cA n c) f := by
    rw [bit_and hc.1 (W_allm _).1 f (by omega), bit_allm n f hn]; simp [hf]
  rw [hcA]
  have hS : W (cS (cA n c) (cU n u) (cD n d)) := W_cS _ _ _
  generalize cS (cA n c) (cU n u) (cD n d) = S at hS
  obtain ⟨a1, a2⟩ := above_tz hS f (by omega)
  obtain ⟨b1, b2⟩ := below_len hS f (by omega)
  generalize shr32 (shr32 S (f : Int)) 1 = V at a1 a2
  generalize and32 S (allm (f : Int)) = B at b1 b2
  by_cases hV : V = 0
  · have hVb : (V != 0) = false := by simp [hV]
    rw [hVb, cond_false]
    by_cases hB : B = 0
    · have hBb : (B != 0) = false := by simp [hB]
      rw [hBb, cond_false]
      exact ⟨0, 0, .inl ⟨rfl, a1 hV⟩, .inl ⟨rfl, b1 hB⟩, rfl⟩
    · have hBb : (B != 0) = true := by simp [hB]
      rw [hBb, cond_true]
      obtain ⟨h1, h2, h3⟩ := b2 hB
      rw [wrap_i64_of (x := (f : Int) - _) (by omega) (by omega), wrap_i64_of (by omega) (by omega)]
      exact ⟨0, _, .inl ⟨rfl, a1 hV⟩, h1, rfl⟩
  · have hVb : (V != 0) = true := by simp [hV]
    rw [hVb, cond_true]
    obtain ⟨g1, g2, g3⟩ := a2 hV
    rw [wrap_i64_of (x := 1 + _) (by omega) (by omega)]
    by_cases hB : B = 0
    · have hBb : (B != 0) = false := by simp [hB]
      rw [hBb, cond_false]
      exact ⟨_, 0, g1, .inl ⟨rfl, b1 hB⟩, rfl⟩
    · have hBb : (B != 0) = true := by simp [hB]
      rw [hBb, cond_true]
      obtain ⟨h1, h2, h3⟩ := b2 hB
      rw [wrap_i64_of (x := (f : Int) - _) (by omega) (by omega), wrap_i64_of (x := (f : Int) - _ + 1) (by omega) (by omega)]
      exact ⟨_, _, g1, h1, rfl⟩

/-! The reference. -/
theorem proper_val (n : Nat) (h1 : 1 ≤ n) (hn : n ≤ 32) (c u d : Int) (hu : W u) (hd : W d) : F32 ((n : Int), c, u, d) = (cA n c, cU n u, cD n d) := by
  unfold F32
  have hb : (decide ((n : Int) < 1) || decide ((n : Int) > 32)) = false := by simp; omega
  simp only
  rw [hb, cond_false, wrap_i64_of (x := (n : Int) - 1) (by omega) (by omega), wrap_u64_of (x := (n : Int)) (by omega) (by omega), wrap_u64_of (x := (n : Int) - 1) (by omega) (by omega)]
  have e1 : nand32 (and32 u (allm (n : Int))) (shl32 1 ((n : Int) - 1)) = cU n u := by
    refine W.ext (W_nand _ _) (W_and _ _) fun i hi => ?_
    rw [show ((n : Int) - 1) = ((n - 1 : Nat) : Int) by omega]
    have hs := bit_shr (W_allm (n : Int)) 1 i
    rw [show (((1 : Nat) : Int)) = 1 from rfl] at hs
    rw [bit_nand (W_and _ _).1 (W_shl _ _).1 i hi, bit_and hu.1 (W_allm _).1 i hi, bit_and hu.1 (W_shr (W_allm _) 1 (by omega)).1 i hi, hs, bit_allm n _ hn, bit_allm n _ hn, bit_one _ i hi]
    by_cases h : i + 1 < n
    · have h2 : i < n := by omega
      have h3 : ¬ i = n - 1 := by omega
      simp [h2, h3, Nat.add_comm 1 i, h]
    · by_cases h2 : i = n - 1
      · simp [h2]; omega
      · have h3 : ¬ i < n := by omega
        simp [h3, Nat.add_comm 1 i, h]
  have e2 : nand32 (and32 d (allm (n : Int))) 1 = cD n d := by
    refine W.ext (W_nand _ _) (W_and _ _) fun i hi => ?_
    rw [bit_nand (W_and _ _).1 (by omega) i hi, bit_and hd.1 (W_allm _).1 i hi, bit_and hd.1 (W_nand _ _).1 i hi, bit_nand (W_allm _).1 (by omega) i hi, Bool.and_assoc]
  exact Prod.ext rfl (Prod.ext e1 e2)

theorem above_val {A U D : Int} (f : Nat) (hf : f < 32) {ab : Int} (h : AboveS (cS A U D) f ab) : F46 ((A, U, D), (f : Int)) = (decide (0 < ab), ab) := by
  have hS : W (cS A U D) := W_cS A U D
  unfold F46
  simp only
  rw [wrap_i64_of (x := (f : Int) + 1) (by omega) (by omega)]
  have hround : ∀ i : Nat, f + 1 + i < 32 → bit (cS A U D) (f + 1 + i) = false → st46_2 ((f : Int), A, U, D) ((f + 1 + i : Nat) : Int) = .next ((f : Int), A, U, D) ((f + 1 + (i + 1) : Nat) : Int) := fun i hi hb => by
    unfold st46_2
    simp only
    have hd : decide (((f + 1 + i : Nat) : Int) < 32) = true := by simp; omega
    rw [hd, cond_true, wrap_u64_of (x := ((f + 1 + i : Nat) : Int)) (by omega) (by omega)]
    have ha := ask_bit hS (f + 1 + i)
    rw [hb] at ha
    rw [ha, cond_false, wrap_i64_of (by omega) (by omega)]
    congr 1
  have hw : ((f : Int) + 1) = ((f + 1 + 0 : Nat) : Int) := by omega
  rcases h with ⟨h1, h2⟩ | ⟨k, h1, h2, h3, h4⟩
  · have hbrk : st46_2 ((f : Int), A, U, D) ((f + 1 + (31 - f) : Nat) : Int) = .brk ((f : Int), A, U, D) ((f + 1 + (31 - f) : Nat) : Int) := by
      unfold st46_2
      have hd : decide (((f + 1 + (31 - f) : Nat) : Int) < 32) = false := by simp; omega
      rw [hd, cond_false]
    have := (end_row_brk (step := st46_2) (fun i : Nat => ((f + 1 + i : Nat) : Int)) (31 - f) (fun i hi => ⟨_, hround i (by omega) (h2 _ (by omega))⟩) hbrk (fuel := Nat.succ (mu46_2 ((f : Int), A, U, D) ((f : Int) + 1))) (by unfold mu46_2; omega)).2
    unfold R46_2
    simp only [← hw] at this
    rw [this, h1]
    rfl
  · have hk := bit_lt hS h2
    have hret : st46_2 ((f : Int), A, U, D) ((f + 1 + (k - f - 1) : Nat) : Int) = .ret (true, ab) := by
      unfold st46_2
      simp only
      rw [show f + 1 + (k - f - 1) = k by omega]
      have hd : decide ((k : Int) < 32) = true := by simp; omega
      have ha := ask_bit hS k
      rw [h2] at ha
      rw [hd, cond_true, wrap_u64_of (x := (k : Int)) (by omega) (by omega), ha, cond_true, wrap_i64_of (by omega) (by omega), h4]
    have := end_row_ret (step := st46_2) (fun i : Nat => ((f + 1 + i : Nat) : Int)) (k - f - 1) (fun i hi => ⟨_, hround i (by omega) (h3 _ (by omega) (by omega))⟩) hret (fuel := Nat.succ (mu46_2 ((f : Int), A, U, D) ((f : Int) + 1))) (by unfold mu46_2; omega)
    unfold R46_2
    simp only [← hw] at this
    rw [this]
    have : decide (0 < ab) = true := by simp; omega
    rw [this]
    rfl
theorem below_val {A U D : Int} (f : Nat) (hf : f < 32) {be : Int} (h : BelowS (cS A U D) f be) : F47 ((A, U, D), (f : Int)) = (decide (0 < be), be) := by
  have hS : W (cS A U D) := W_cS A U D
  unfold F47
  simp only
  rw [wrap_i64_of (x := (f : Int) - 1) (by omega) (by omega)]
  have hround : ∀ i : Nat, i < f → bit (cS A U D) (f - 1 - i) = false → st47_2 ((f : Int), A, U, D) ((f : Int) - 1 - (i : Int)) = .next ((f : Int), A, U, D) ((f : Int) - 1 - ((i + 1 : Nat) : Int)) := fun i hi hb => by
    unfold st47_2
    simp only
    have he : (f : Int) - 1 - (i : Int) = ((f - 1 - i : Nat) : Int) := by omega
    have hd : decide ((f : Int) - 1 - (i : Int) ≥ 0) = true := by simp; omega
    rw [hd, cond_true, he, wrap_u64_of (x := ((f - 1 - i : Nat) : Int)) (by omega) (by omega)]
    have ha := ask_bit hS (f - 1 - i)
    rw [hb] at ha
    rw [ha, cond_false, wrap_i64_of (by omega) (by omega)]
    congr 1
    omega
  have hw : ((f : Int) - 1) = (f : Int) - 1 - ((0 : Nat) : Int) := by omega
  rcases h with ⟨h1, h2⟩ | ⟨k, h1, h2, h3, h4⟩
  · have hbrk : st47_2 ((f : Int), A, U, D) ((f : Int) - 1 - (f : Int)) = .brk ((f : Int), A, U, D) ((f : Int) - 1 - (f : Int)) := by
      unfold st47_2
      have hd : decide ((f : Int) - 1 - (f : Int) ≥ 0) = false := by simp; omega
      rw [hd, cond_false]
    have := (end_row_brk (step := st47_2) (fun i : Nat => (f : Int) - 1 - (i : Int)) f (fun i hi => ⟨_, hround i hi (h2 _ (by omega))⟩) hbrk (fuel := Nat.succ (mu47_2 ((f : Int), A, U, D) ((f : Int) - 1))) (by unfold mu47_2; omega)).2
    unfold R47_2
    simp only [← hw] at this
    rw [this, h1]
    rfl
  · have hret : st47_2 ((f : Int), A, U, D) ((f : Int) - 1 - ((f - 1 - k : Nat) : Int)) = .ret (true, be) := by
      unfold st47_2
      simp only
      rw [show (f : Int) - 1 - ((f - 1 - k : Nat) : Int) = (k : Int) by omega]
      have hd : decide ((k : Int) ≥ 0) = true := by simp
      have ha := ask_bit hS k
      rw [h2] at ha
      rw [hd, cond_true, wrap_u64_of (x := (k : Int)) (by omega) (by omega), ha, cond_true, wrap_i64_of (by omega) (by omega), h4]
    have := end_row_ret (step := st47_2) (fun i : Nat => (f : Int) - 1 - (i : Int)) (f - 1 - k) (fun i hi => ⟨_, hround i (by omega) (h3 _ (by omega) (by omega))⟩) hret (fuel := Nat.succ (mu47_2 ((f : Int), A, U, D) ((f : Int) - 1))) (by unfold mu47_2; omega)
    unfold R47_2
    simp only [← hw] at this
    rw [this]
    have : decide (0 < be) = true := by simp; omega
    rw [this]
    rfl
end Go.Proofs.YtidnlehjabhclaaDoor.Sp
