/- Collective: the program's scene and the reference's, the program is the reference, choices at every combination (own work). -/
import Derived.Test.YtidnlehjabhclaaDoorBs
import Derived.Test.YtidnlehjabhclaaDoorE7
import Derived.Test.YtidnlehjabhclaaDoorTr
namespace Go.Proofs.YtidnlehjabhclaaDoor.Sp
open Go Sy
set_option linter.unusedVariables false
set_option linter.unusedSimpArgs false
set_option maxRecDepth 10000

abbrev cA (n : Nat) (c : Int) : Int := and32 c (allm (n : Int))
abbrev cU (n : Nat) (u : Int) : Int := and32 u (shr32 (allm (n : Int)) 1)
abbrev cD (n : Nat) (d : Int) : Int := and32 d (nand32 (allm (n : Int)) 1)
abbrev cS (A U D : Int) : Int := or32 (or32 A U) D
theorem W_cS (A U D : Int) : W (cS A U D) := W_or _ _
theorem bit_cS {A U D : Int} (hA : W A) (hU : W U) (hD : W D) (i : Nat) (hi : i < 32) : bit (cS A U D) i = (bit A i || bit U i || bit D i) := by
  rw [bit_or (W_or _ _).1 hD.1 i hi, bit_or hA.1 hU.1 i hi]
theorem and_zero {a : Int} (ha : W a) : and32 a 0 = 0 := W.ext (W_and _ _) W.zero fun i hi => by rw [bit_and ha.1 (by omega) i hi, bit_zero, Bool.and_false]
theorem has_up {U D : Int} (hU : W U) (hD : W D) (f : Nat) (hf : f < 32) : F40 ((U, D), (f : Int), 1) = bit U f := by
  have h1 : F48 ((f : Int), 1) = (shl32 1 (f : Int), 0) := by
    unfold F48
    have : (decide ((f : Int) ≥ 0) && decide ((f : Int) < 32)) = true := by simp; omega
    rw [this]; rfl
  unfold F40
  rw [h1]
  show (!((and32 U (shl32 1 (f : Int)) == 0) && (and32 D 0 == 0))) = _
  rw [and_zero hD, and_shl hU f hf]
  cases hb : bit U f with
  | false => rfl
  | true =>
    rw [cond_true]
    have : shl32 1 (f : Int) ≠ 0 := ne_zero_of (i := f) (by rw [bit_one f f hf]; simp)
    simp [this]
theorem has_down {U D : Int} (hU : W U) (hD : W D) (f : Nat) (hf : f < 32) : F40 ((U, D), (f : Int), 2) = bit D f := by
  have h1 : F48 ((f : Int), 2) = (0, shl32 1 (f : Int)) := by
    unfold F48
    have : (decide ((f : Int) ≥ 0) && decide ((f : Int) < 32)) = true := by simp; omega
    rw [this]; rfl
  unfold F40
  rw [h1]
  show (!((and32 U 0 == 0) && (and32 D (shl32 1 (f : Int)) == 0))) = _
  rw [and_zero hU, and_shl hD f hf]
  cases hb : bit D f with
  | false => rfl
  | true =>
    rw [cond_true]
    have : shl32 1 (f : Int) ≠ 0 := ne_zero_of (i := f) (by rw [bit_one f f hf]; simp)
    simp [this]

theorem look_eq (n f : Nat) (w : Int × Int) (c u d : Int) : F26 ((n : Int), w, (f : Int), c, u, d) =
    bif (shr32 (shr32 (cS (cA n c) (cU n u) (cD n d)) (f : Int)) 1 != 0) then
      (bif (and32 (cS (cA n c) (cU n u) (cD n d)) (allm (f : Int)) != 0) then
        (and32 (shr32 c (f : Int)) 1 == 1, F40 ((cU n u, cD n d), (f : Int), 1), F40 ((cU n u, cD n d), (f : Int), 2), IntKind.i64.wrap (1 + F41 (shr32 (shr32 (cS (cA n c) (cU n u) (cD n d)) (f : Int)) 1)), IntKind.i64.wrap (IntKind.i64.wrap ((f : Int) - F42 (and32 (cS (cA n c) (cU n u) (cD n d)) (allm (f : Int)))) + 1), w.2)
      else (and32 (shr32 c (f : Int)) 1 == 1, F40 ((cU n u, cD n d), (f : Int), 1), F40 ((cU n u, cD n d), (f : Int), 2), IntKind.i64.wrap (1 + F41 (shr32 (shr32 (cS (cA n c) (cU n u) (cD n d)) (f : Int)) 1)), 0, w.2))
    else
      bif (and32 (cS (cA n c) (cU n u) (cD n d)) (allm (f : Int)) != 0) then
        (and32 (shr32 c (f : Int)) 1 == 1, F40 ((cU n u, cD n d), (f : Int), 1), F40 ((cU n u, cD n d), (f : Int), 2), 0, IntKind.i64.wrap (IntKind.i64.wrap ((f : Int) - F42 (and32 (cS (cA n c) (cU n u) (cD n d)) (allm (f : Int)))) + 1), w.2)
      else (and32 (shr32 c (f : Int)) 1 == 1, F40 ((cU n u, cD n d), (f : Int), 1), F40 ((cU n u, cD n d), (f : Int), 2), 0, 0, w.2) := by kernel_rfl
theorem look_val (n f : Nat) (hn : n ≤ 32) (hf : f < n) (w : Int × Int) (c u d : Int) (hc : W c) : ∃ ab be, AboveS (cS (cA n c) (cU n u) (cD n d)) f ab ∧ BelowS (cS (cA n c) (cU n u) (cD n d)) f be ∧
    F26 ((n : Int), w, (f : Int), c, u, d) = (bit (cA n c) f, bit (cU n u) f, bit (cD n d) f, ab, be, w.2) := by
  rw [look_eq, ask_bit hc f, has_up (W_and _ _) (W_and _ _) f (by omega), has_down (W_and _ _) (W_and _ _) f (by omega)]
  have hcA : bit c f = bit (cA n c) f := by
    rw [bit_and hc.1 (W_allm _).1 f (by omega), bit_allm n f hn]; simp [hf]
  rw [hcA]
  have hS : W (cS (cA n c) (cU n u) (cD n d)) := W_cS _ _ _
  generalize cS (cA n c) (cU n u) (cD n d) = S at hS
  obtain ⟨a1, a2⟩ := above_tz hS f (by omega)
  obtain ⟨b1, b2⟩ := below_len hS f (by omega)
  generalize shr32 (shr32 S (f : Int)) 1 = V at a1 a2
  generalize and32 S (allm (f : Int)) = B at b1 b2
  by_cases hV : V = 0
  · have hVb : (V != 0) = false := by simp [hV]
    rw [hVb, cond_false]
    by_cases hB : B = 0
    · have hBb : (B != 0) = false := by simp [hB]
      rw [hBb, cond_false]
      exact ⟨0, 0, .inl ⟨rfl, a1 hV⟩, .inl ⟨rfl, b1 hB⟩, rfl⟩
    · have hBb : (B != 0) = true := by simp [hB]
      rw [hBb, cond_true]
      obtain ⟨h1, h2, h3⟩ := b2 hB
      rw [wrap_i64_of (x := (f : Int) - _) (by omega) (by omega), wrap_i64_of (by omega) (by omega)]
      exact ⟨0, _, .inl ⟨rfl, a1 hV⟩, h1, rfl⟩
  · have hVb : (V != 0) = true := by simp [hV]
    rw [hVb, cond_true]
    obtain ⟨g1, g2, g3⟩ := a2 hV
    rw [wrap_i64_of (x := 1 + _) (by omega) (by omega)]
    by_cases hB : B = 0
    · have hBb : (B != 0) = false := by simp [hB]
      rw [hBb, cond_false]
      exact ⟨_, 0, g1, .inl ⟨rfl, b1 hB⟩, rfl⟩
    · have hBb : (B != 0) = true := by simp [hB]
      rw [hBb, cond_true]
      obtain ⟨h1, h2, h3⟩ := b2 hB
      rw [wrap_i64_of (x := (f : Int) - _) (by omega) (by omega), wrap_i64_of (x := (f : Int) - _ + 1) (by omega) (by omega)]
      exact ⟨_, _, g1, h1, rfl⟩

/-! The reference. -/
theorem proper_val (n : Nat) (h1 : 1 ≤ n) (hn : n ≤ 32) (c u d : Int) (hu : W u) (hd : W d) : F32 ((n : Int), c, u, d) = (cA n c, cU n u, cD n d) := by
  unfold F32
  have hb : (decide ((n : Int) < 1) || decide ((n : Int) > 32)) = false := by simp; omega
  simp only
  rw [hb, cond_false, wrap_i64_of (x := (n : Int) - 1) (by omega) (by omega), wrap_u64_of (x := (n : Int)) (by omega) (by omega), wrap_u64_of (x := (n : Int) - 1) (by omega) (by omega)]
  have e1 : nand32 (and32 u (allm (n : Int))) (shl32 1 ((n : Int) - 1)) = cU n u := by
    refine W.ext (W_nand _ _) (W_and _ _) fun i hi => ?_
    rw [show ((n : Int) - 1) = ((n - 1 : Nat) : Int) by omega]
    have hs := bit_shr (W_allm (n : Int)) 1 i
    rw [show (((1 : Nat) : Int)) = 1 from rfl] at hs
    rw [bit_nand (W_and _ _).1 (W_shl _ _).1 i hi, bit_and hu.1 (W_allm _).1 i hi, bit_and hu.1 (W_shr (W_allm _) 1 (by omega)).1 i hi, hs, bit_allm n _ hn, bit_allm n _ hn, bit_one _ i hi]
    by_cases h : i + 1 < n
    · have h2 : i < n := by omega
      have h3 : ¬ i = n - 1 := by omega
      simp [h2, h3, Nat.add_comm 1 i, h]
    · by_cases h2 : i = n - 1
      · simp [h2]; omega
      · have h3 : ¬ i < n := by omega
        simp [h3, Nat.add_comm 1 i, h]
  have e2 : nand32 (and32 d (allm (n : Int))) 1 = cD n d := by
    refine W.ext (W_nand _ _) (W_and _ _) fun i hi => ?_
    rw [bit_nand (W_and _ _).1 (by omega) i hi, bit_and hd.1 (W_allm _).1 i hi, bit_and hd.1 (W_nand _ _).1 i hi, bit_nand (W_allm _).1 (by omega) i hi, Bool.and_assoc]
  exact Prod.ext rfl (Prod.ext e1 e2)

theorem above_val {A U D : Int} (f : Nat) (hf : f < 32) {ab : Int} (h : AboveS (cS A U D) f ab) : F46 ((A, U, D), (f : Int)) = (decide (0 < ab), ab) := by
  have hS : W (cS A U D) := W_cS A U D
  unfold F46
  simp only
  rw [wrap_i64_of (x := (f : Int) + 1) (by omega) (by omega)]
  have hround : ∀ i : Nat, f + 1 + i < 32 → bit (cS A U D) (f + 1 + i) = false → st46_2 ((f : Int), A, U, D) ((f + 1 + i : Nat) : Int) = .next ((f : Int), A, U, D) ((f + 1 + (i + 1) : Nat) : Int) := fun i hi hb => by
    unfold st46_2
    simp only
    have hd : decide (((f + 1 + i : Nat) : Int) < 32) = true := by simp; omega
    rw [hd, cond_true, wrap_u64_of (x := ((f + 1 + i : Nat) : Int)) (by omega) (by omega)]
    have ha := ask_bit hS (f + 1 + i)
    rw [hb] at ha
    rw [ha, cond_false, wrap_i64_of (by omega) (by omega)]
    congr 1
  have hw : ((f : Int) + 1) = ((f + 1 + 0 : Nat) : Int) := by omega
  rcases h with ⟨h1, h2⟩ | ⟨k, h1, h2, h3, h4⟩
  · have hbrk : st46_2 ((f : Int), A, U, D) ((f + 1 + (31 - f) : Nat) : Int) = .brk ((f : Int), A, U, D) ((f + 1 + (31 - f) : Nat) : Int) := by
      unfold st46_2
      have hd : decide (((f + 1 + (31 - f) : Nat) : Int) < 32) = false := by simp; omega
      rw [hd, cond_false]
    have := (end_row_brk (step := st46_2) (fun i : Nat => ((f + 1 + i : Nat) : Int)) (31 - f) (fun i hi => ⟨_, hround i (by omega) (h2 _ (by omega))⟩) hbrk (fuel := Nat.succ (mu46_2 ((f : Int), A, U, D) ((f : Int) + 1))) (by unfold mu46_2; omega)).2
    unfold R46_2
    simp only [← hw] at this
    rw [this, h1]
    rfl
  · have hk := bit_lt hS h2
    have hret : st46_2 ((f : Int), A, U, D) ((f + 1 + (k - f - 1) : Nat) : Int) = .ret (true, ab) := by
      unfold st46_2
      simp only
      rw [show f + 1 + (k - f - 1) = k by omega]
      have hd : decide ((k : Int) < 32) = true := by simp; omega
      have ha := ask_bit hS k
      rw [h2] at ha
      rw [hd, cond_true, wrap_u64_of (x := (k : Int)) (by omega) (by omega), ha, cond_true, wrap_i64_of (by omega) (by omega), h4]
    have := end_row_ret (step := st46_2) (fun i : Nat => ((f + 1 + i : Nat) : Int)) (k - f - 1) (fun i hi => ⟨_, hround i (by omega) (h3 _ (by omega) (by omega))⟩) hret (fuel := Nat.succ (mu46_2 ((f : Int), A, U, D) ((f : Int) + 1))) (by unfold mu46_2; omega)
    unfold R46_2
    simp only [← hw] at this
    rw [this]
    have : decide (0 < ab) = true := by simp; omega
    rw [this]
    rfl
theorem below_val {A U D : Int} (f : Nat) (hf : f < 32) {be : Int} (h : BelowS (cS A U D) f be) : F47 ((A, U, D), (f : Int)) = (decide (0 < be), be) := by
  have hS : W (cS A U D) := W_cS A U D
  unfold F47
  simp only
  rw [wrap_i64_of (x := (f : Int) - 1) (by omega) (by omega)]
  have hround : ∀ i : Nat, i < f → bit (cS A U D) (f - 1 - i) = false → st47_2 ((f : Int), A, U, D) ((f : Int) - 1 - (i : Int)) = .next ((f : Int), A, U, D) ((f : Int) - 1 - ((i + 1 : Nat) : Int)) := fun i hi hb => by
    unfold st47_2
    simp only
    have he : (f : Int) - 1 - (i : Int) = ((f - 1 - i : Nat) : Int) := by omega
    have hd : decide ((f : Int) - 1 - (i : Int) ≥ 0) = true := by simp; omega
    rw [hd, cond_true, he, wrap_u64_of (x := ((f - 1 - i : Nat) : Int)) (by omega) (by omega)]
    have ha := ask_bit hS (f - 1 - i)
    rw [hb] at ha
    rw [ha, cond_false, wrap_i64_of (by omega) (by omega)]
    congr 1
    omega
  have hw : ((f : Int) - 1) = (f : Int) - 1 - ((0 : Nat) : Int) := by omega
  rcases h with ⟨h1, h2⟩ | ⟨k, h1, h2, h3, h4⟩
  · have hbrk : st47_2 ((f : Int), A, U, D) ((f : Int) - 1 - (f : Int)) = .brk ((f : Int), A, U, D) ((f : Int) - 1 - (f : Int)) := by
      unfold st47_2
      have hd : decide ((f : Int) - 1 - (f : Int) ≥ 0) = false := by simp; omega
      rw [hd, cond_false]
    have := (end_row_brk (step := st47_2) (fun i : Nat => (f : Int) - 1 - (i : Int)) f (fun i hi => ⟨_, hround i hi (h2 _ (by omega))⟩) hbrk (fuel := Nat.succ (mu47_2 ((f : Int), A, U, D) ((f : Int) - 1))) (by unfold mu47_2; omega)).2
    unfold R47_2
    simp only [← hw] at this
    rw [this, h1]
    rfl
  · have hret : st47_2 ((f : Int), A, U, D) ((f : Int) - 1 - ((f - 1 - k : Nat) : Int)) = .ret (true, be) := by
      unfold st47_2
      simp only
      rw [show (f : Int) - 1 - ((f - 1 - k : Nat) : Int) = (k : Int) by omega]
      have hd : decide ((k : Int) ≥ 0) = true := by simp
      have ha := ask_bit hS k
      rw [h2] at ha
      rw [hd, cond_true, wrap_u64_of (x := (k : Int)) (by omega) (by omega), ha, cond_true, wrap_i64_of (by omega) (by omega), h4]
    have := end_row_ret (step := st47_2) (fun i : Nat => (f : Int) - 1 - (i : Int)) (f - 1 - k) (fun i hi => ⟨_, hround i (by omega) (h3 _ (by omega) (by omega))⟩) hret (fuel := Nat.succ (mu47_2 ((f : Int), A, U, D) ((f : Int) - 1))) (by unfold mu47_2; omega)
    unfold R47_2
    simp only [← hw] at this
    rw [this]
    have : decide (0 < be) = true := by simp; omega
    rw [this]
    rfl

abbrev m2p (o : Int) : Bool := (IntKind.i64.wrap ((BitVec.ofInt IntKind.i64.bits (Int.fdiv o (2 ^ (min ((1 : Int)).toNat IntKind.i64.bits))) &&& BitVec.ofInt IntKind.i64.bits (1 : Int)).toNat : Int)) == (1 : Int)
abbrev m3p (o : Int) : Bool := (IntKind.i64.wrap ((BitVec.ofInt IntKind.i64.bits (Int.fdiv o (2 ^ (min ((2 : Int)).toNat IntKind.i64.bits))) &&& BitVec.ofInt IntKind.i64.bits (1 : Int)).toNat : Int)) == (1 : Int)
abbrev m2 (o : Int) : Bool := (IntKind.i64.wrap ((BitVec.ofInt IntKind.i64.bits o &&& BitVec.ofInt IntKind.i64.bits (2 : Int)).toNat : Int)) != (0 : Int)
abbrev m3 (o : Int) : Bool := (IntKind.i64.wrap ((BitVec.ofInt IntKind.i64.bits o &&& BitVec.ofInt IntKind.i64.bits (4 : Int)).toNat : Int)) != (0 : Int)
theorem m2_eq : ∀ o : Nat, o < 8 → m2p (o : Int) = m2 (o : Int) := by decide +kernel
theorem m3_eq : ∀ o : Nat, o < 8 → m3p (o : Int) = m3 (o : Int) := by decide +kernel
/-- Is there anything to do apart from what is marked? -/
def more (a u d : Bool) (ab be o : Int) : Bool := ((((a && (!(a && (o != 0)))) || (u && (!(u && m2 o)))) || (d && (!(d && m3 o)))) || decide (0 < ab)) || decide (0 < be)
def opd (a u d : Bool) (ab be o : Int) : Int := bif more a u d ab be o then o else 0
theorem without_val (a u d : Bool) (ab be : Int) (o : Nat) (ho : o < 8) : F27 (a, u, d, ab, be, (o : Int)) =
    ((a && (!(a && (opd a u d ab be o != 0))), u && (!(u && m2 (opd a u d ab be o))), d && (!(d && m3 (opd a u d ab be o))), ab, be, opd a u d ab be o),
      a && (opd a u d ab be o != 0), u && m2 (opd a u d ab be o), d && m3 (opd a u d ab be o), 0, 0, 0) := by
  have h : F27 (a, u, d, ab, be, (o : Int)) = bif ((((a && (!(a && ((o : Int) != 0)))) || (u && (!(u && m2p o)))) || (d && (!(d && m3p o)))) || decide (ab > 0)) || decide (be > 0) then
      ((a && (!(a && ((o : Int) != 0))), u && (!(u && m2p o)), d && (!(d && m3p o)), ab, be, (o : Int)), a && ((o : Int) != 0), u && m2p o, d && m3p o, 0, 0, 0) else ((a, u, d, ab, be, 0), false, false, false, 0, 0, 0) := rfl
  rw [h, m2_eq o ho, m3_eq o ho]
  show (bif more a u d ab be o then _ else _) = _
  unfold opd
  cases more a u d ab be o with
  | true => rfl
  | false =>
    rw [cond_false, cond_false]
    have h2 : m2 0 = false := by decide +kernel
    have h3 : m3 0 = false := by decide +kernel
    rw [h2, h3]
    cases a <;> cases u <;> cases d <;> rfl

theorem marked_val {A U D : Int} (hA : W A) (hU : W U) (hD : W D) (f : Nat) (hf : f < 32) (dir o : Int) : F38 ((dir, o), (f : Int), A, U, D) =
    (bif (bit A f && (o != 0)) then shl32 1 (f : Int) else 0, bif (bit U f && m2 o) then shl32 1 (f : Int) else 0, bif (bit D f && m3 o) then shl32 1 (f : Int) else 0) := by
  have h : F38 ((dir, o), (f : Int), A, U, D) = (bif (o != 0) then and32 A (shl32 1 (IntKind.u64.wrap (f : Int))) else 0, bif m2 o then and32 U (shl32 1 (IntKind.u64.wrap (f : Int))) else 0, bif m3 o then and32 D (shl32 1 (IntKind.u64.wrap (f : Int))) else 0) := by
    unfold F38
    unfold m2 m3
    simp only
    generalize ((IntKind.i64.wrap ((BitVec.ofInt IntKind.i64.bits o &&& BitVec.ofInt IntKind.i64.bits (2 : Int)).toNat : Int)) != (0 : Int)) = b2
    generalize ((IntKind.i64.wrap ((BitVec.ofInt IntKind.i64.bits o &&& BitVec.ofInt IntKind.i64.bits (4 : Int)).toNat : Int)) != (0 : Int)) = b3
    cases (o != 0) <;> cases b2 <;> cases b3 <;> rfl
  rw [h, wrap_u64_of (x := (f : Int)) (by omega) (by omega), and_shl hA f hf, and_shl hU f hf, and_shl hD f hf]
  generalize m2 o = b2
  generalize m3 o = b3
  generalize shl32 1 (f : Int) = q
  cases (o != 0) <;> cases b2 <;> cases b3 <;> cases bit A f <;> cases bit U f <;> cases bit D f <;> rfl
theorem mark_eq {A : Int} (hA : W A) (f : Nat) (hf : f < 32) (m : Bool) : ((bif (bit A f && m) then shl32 1 (f : Int) else 0) == A) = true ↔ (bit A f = true → m = true) ∧ ∀ i, i ≠ f → bit A i = false := by
  rw [beq_iff_eq]
  constructor
  · intro h
    refine ⟨fun hb => ?_, fun i hi => ?_⟩
    · cases m with
      | true => rfl
      | false =>
        rw [Bool.and_false, cond_false] at h
        rw [← h, bit_zero] at hb; cases hb
    · rcases Nat.lt_or_ge i 32 with h32 | h32
      · rw [← h]
        cases (bit A f && m) with
        | true => rw [cond_true, bit_one f i h32]; simpa using hi
        | false => exact bit_zero i
      · exact bit_hi hA h32
  · rintro ⟨h1, h2⟩
    refine W.ext (by cases (bit A f && m); exact W.zero; exact W_shl _ _) hA fun i hi => ?_
    by_cases hif : i = f
    · subst hif
      cases hb : bit A i with
      | true => rw [h1 hb]; simp [bit_one i i hi]
      | false => simp [bit_zero]
    · rw [h2 i hif]
      cases (bit A f && m) with
      | true => rw [cond_true, bit_one f i hi]; simpa using hif
      | false => exact bit_zero i
theorem counted_val {A U D : Int} (hA : W A) (hU : W U) (hD : W D) (f : Nat) (hf : f < 32) (dir o ab be : Int) (ha : AboveS (cS A U D) f ab) (hb : BelowS (cS A U D) f be) :
    F37 ((dir, o), (f : Int), A, U, D) = opd (bit A f) (bit U f) (bit D f) ab be o := by
  unfold F37 opd
  rw [marked_val hA hU hD f hf]
  have key : (((bif (bit A f && (o != 0)) then shl32 1 (f : Int) else 0) == A) && (((bif (bit U f && m2 o) then shl32 1 (f : Int) else 0) == U) && ((bif (bit D f && m3 o) then shl32 1 (f : Int) else 0) == D))) = !more (bit A f) (bit U f) (bit D f) ab be o := by
    rw [Bool.eq_iff_iff]
    rw [Bool.and_eq_true, Bool.and_eq_true, mark_eq hA f hf, mark_eq hU f hf, mark_eq hD f hf]
    unfold more
    simp only [Bool.not_eq_true', Bool.or_eq_false_iff, decide_eq_false_iff_not]
    rw [ha.none, hb.none]
    have hs : ∀ i, bit (cS A U D) i = false ↔ bit A i = false ∧ bit U i = false ∧ bit D i = false := fun i => by
      rcases Nat.lt_or_ge i 32 with h32 | h32
      · rw [bit_cS hA hU hD i h32]
        simp only [Bool.or_eq_false_iff]
        exact and_assoc
      · simp [bit_hi (W_cS A U D) h32, bit_hi hA h32, bit_hi hU h32, bit_hi hD h32]
    constructor
    · rintro ⟨⟨h1, h2⟩, ⟨h3, h4⟩, h5, h6⟩
      refine ⟨⟨⟨⟨?_, ?_⟩, ?_⟩, fun i hi => (hs i).2 ⟨h2 i (by omega), h4 i (by omega), h6 i (by omega)⟩⟩, fun i hi => (hs i).2 ⟨h2 i (by omega), h4 i (by omega), h6 i (by omega)⟩⟩
      · cases hx : bit A f with | false => rfl | true => rw [h1 hx]; rfl
      · cases hx : bit U f with | false => rfl | true => rw [h3 hx]; rfl
      · cases hx : bit D f with | false => rfl | true => rw [h5 hx]; rfl
    · rintro ⟨⟨⟨⟨h1, h2⟩, h3⟩, h4⟩, h5⟩
      have hne : ∀ i, i ≠ f → bit A i = false ∧ bit U i = false ∧ bit D i = false := fun i hi => by
        rcases Nat.lt_or_ge i f with h | h
        · exact (hs i).1 (h5 i h)
        · exact (hs i).1 (h4 i (by omega))
      refine ⟨⟨fun hx => ?_, fun i hi => (hne i hi).1⟩, ⟨fun hx => ?_, fun i hi => (hne i hi).2.1⟩, ⟨fun hx => ?_, fun i hi => (hne i hi).2.2⟩⟩
      · rw [hx] at h1; cases hm : (o != 0) with | true => rfl | false => rw [hm] at h1; cases h1
      · rw [hx] at h2; cases hm : m2 o with | true => rfl | false => rw [hm] at h2; cases h2
      · rw [hx] at h3; cases hm : m3 o with | true => rfl | false => rw [hm] at h3; cases h3
  show (bif (((bif (bit A f && (o != 0)) then shl32 1 (f : Int) else 0) == A) && (((bif (bit U f && m2 o) then shl32 1 (f : Int) else 0) == U) && ((bif (bit D f && m3 o) then shl32 1 (f : Int) else 0) == D))) then 0 else o) = _
  rw [key]
  cases more (bit A f) (bit U f) (bit D f) ab be o <;> rfl

/-- Arguments in order. -/
structure Ok (n f : Nat) (dir o : Int) (c u d : Int) : Prop where
  n2 : 2 ≤ n
  n32 : n ≤ 32
  f : f < n
  dir : 0 ≤ dir ∧ dir ≤ 2
  o : 0 ≤ o ∧ o ≤ 7
  c : W c
  u : W u
  d : W d
theorem Ok.proper {n f : Nat} {dir o c u d : Int} (h : Ok n f dir o c u d) : F17 ((n : Int), (dir, o), (f : Int)) = true := by
  have := h.n2; have := h.n32; have := h.f; have := h.dir; have := h.o
  unfold F17 F24
  simp only [Bool.and_eq_true, decide_eq_true_eq]
  omega
theorem Ok.guard {n f : Nat} {dir o c u d : Int} (h : Ok n f dir o c u d) : (((((decide ((n : Int) < (2 : Int))) || (decide ((n : Int) > (32 : Int)))) || (decide ((f : Int) < (0 : Int)))) || (decide ((f : Int) ≥ (n : Int)))) || (!(F25 (dir, o)))) = false := by
  have := h.n2; have := h.n32; have := h.f; have := h.dir; have := h.o
  unfold F25
  simp only [Bool.or_eq_false_iff, Bool.not_eq_false', Bool.and_eq_true, decide_eq_true_eq, decide_eq_false_iff_not]
  omega
theorem cA_idem (n : Nat) (hn : n ≤ 32) (c : Int) (hc : W c) : cA n (cA n c) = cA n c := by
  refine W.ext (W_and _ _) (W_and _ _) fun i hi => ?_
  rw [bit_and (W_and _ _).1 (W_allm _).1 i hi, bit_and hc.1 (W_allm _).1 i hi, Bool.and_assoc, Bool.and_self]
theorem and_idem (x y : Int) (hx : W x) (hy : W y) : and32 (and32 x y) y = and32 x y := by
  refine W.ext (W_and _ _) (W_and _ _) fun i hi => ?_
  rw [bit_and (W_and _ _).1 hy.1 i hi, bit_and hx.1 hy.1 i hi, Bool.and_assoc, Bool.and_self]

/-- What a choice depends on. -/
structure Sc (n f : Nat) (o c u d ab be : Int) : Prop where
  ab : AboveS (cS (cA n c) (cU n u) (cD n d)) f ab
  be : BelowS (cS (cA n c) (cU n u) (cD n d)) f be
abbrev oo (n f : Nat) (o c u d ab be : Int) : Int := opd (bit (cA n c) f) (bit (cU n u) f) (bit (cD n d) f) ab be o
abbrev rc (n f : Nat) (o c u d ab be : Int) : Bool := bit (cA n c) f && (!(bit (cA n c) f && (oo n f o c u d ab be != 0)))
abbrev ru (n f : Nat) (o c u d ab be : Int) : Bool := bit (cU n u) f && (!(bit (cU n u) f && m2 (oo n f o c u d ab be)))
abbrev rd (n f : Nat) (o c u d ab be : Int) : Bool := bit (cD n d) f && (!(bit (cD n d) f && m3 (oo n f o c u d ab be)))
theorem scene {n f : Nat} {dir o c u d : Int} (h : Ok n f dir o c u d) : ∃ ab be, Sc n f o c u d ab be ∧ F27 (F26 ((n : Int), (dir, o), (f : Int), c, u, d)) =
    ((rc n f o c u d ab be, ru n f o c u d ab be, rd n f o c u d ab be, ab, be, oo n f o c u d ab be), bit (cA n c) f && (oo n f o c u d ab be != 0), bit (cU n u) f && m2 (oo n f o c u d ab be), bit (cD n d) f && m3 (oo n f o c u d ab be), 0, 0, 0) := by
  obtain ⟨ab, be, h1, h2, h3⟩ := look_val n f h.n32 h.f (dir, o) c u d h.c
  refine ⟨ab, be, ⟨h1, h2⟩, ?_⟩
  rw [h3]
  obtain ⟨o', rfl⟩ := Int.eq_ofNat_of_zero_le h.o.1
  exact without_val _ _ _ ab be o' (by have := h.o; omega)
theorem uwrap (f : Nat) (hf : f < 32) : IntKind.u64.wrap (f : Int) = (f : Int) := wrap_u64_of (by omega) (by omega)
theorem rhas_up {U D : Int} (hU : W U) (f : Nat) (hf : f < 32) : F19 ((U, D), (f : Int), 1) = bit U f := by
  unfold F19
  have hb : (decide ((f : Int) < 0) || decide ((f : Int) > 31)) = false := by simp; omega
  simp only
  rw [hb, cond_false, uwrap f hf, show ((1 : Int) == 1) = true from rfl, show ((1 : Int) == 2) = false from rfl, Bool.true_and, Bool.false_and, Bool.or_false]
  exact ask_bit hU f
theorem rhas_down {U D : Int} (hD : W D) (f : Nat) (hf : f < 32) : F19 ((U, D), (f : Int), 2) = bit D f := by
  unfold F19
  have hb : (decide ((f : Int) < 0) || decide ((f : Int) > 31)) = false := by simp; omega
  simp only
  rw [hb, cond_false, uwrap f hf, show ((2 : Int) == 1) = false from rfl, show ((2 : Int) == 2) = true from rfl, Bool.true_and, Bool.false_and, Bool.false_or]
  exact ask_bit hD f
def near (ab be : Int) : Int := bif (decide (0 < ab) && ((!decide (0 < be)) || decide (be ≥ ab))) then 1 else bif decide (0 < be) then 2 else 0
theorem rspent {n f : Nat} {dir o c u d ab be : Int} (h : Ok n f dir o c u d) (s : Sc n f o c u d ab be) : F23 ((n : Int), (dir, o), (f : Int), cA n c, cU n u, cD n d) =
    (bif (bit (cA n c) f && (oo n f o c u d ab be != 0)) then shl32 1 (f : Int) else 0, bif (bit (cU n u) f && m2 (oo n f o c u d ab be)) then shl32 1 (f : Int) else 0, bif (bit (cD n d) f && m3 (oo n f o c u d ab be)) then shl32 1 (f : Int) else 0) := by
  have hn := h.n2; have hf := h.f; have h32 := h.n32
  have hp : F32 ((n : Int), cA n c, cU n u, cD n d) = (cA n c, cU n u, cD n d) := by
    rw [proper_val n (by omega) h32 _ _ _ (W_and _ _) (W_and _ _)]
    exact Prod.ext (and_idem _ _ h.c (W_allm _)) (Prod.ext (and_idem _ _ h.u (W_shr (W_allm _) 1 (by omega))) (and_idem _ _ h.d (W_nand _ _)))
  unfold F23
  simp only
  rw [h.guard, cond_false, hp]
  try simp only
  rw [counted_val (W_and _ _) (W_and _ _) (W_and _ _) f (by omega) dir o ab be s.ab s.be, marked_val (W_and _ _) (W_and _ _) (W_and _ _) f (by omega)]
theorem rspent' {n f : Nat} {dir o c u d ab be : Int} (h : Ok n f dir o c u d) (s : Sc n f o c u d ab be) : F23 ((n : Int), (dir, o), (f : Int), c, u, d) =
    (bif (bit (cA n c) f && (oo n f o c u d ab be != 0)) then shl32 1 (f : Int) else 0, bif (bit (cU n u) f && m2 (oo n f o c u d ab be)) then shl32 1 (f : Int) else 0, bif (bit (cD n d) f && m3 (oo n f o c u d ab be)) then shl32 1 (f : Int) else 0) := by
  have hn := h.n2; have hf := h.f; have h32 := h.n32
  unfold F23
  simp only
  rw [h.guard, cond_false, proper_val n (by omega) h32 _ _ _ h.u h.d]
  try simp only
  rw [counted_val (W_and _ _) (W_and _ _) (W_and _ _) f (by omega) dir o ab be s.ab s.be, marked_val (W_and _ _) (W_and _ _) (W_and _ _) f (by omega)]
theorem live_bit {A : Int} (hA : W A) (f : Nat) (hf : f < 32) (m : Bool) : bit (nand32 A (bif (bit A f && m) then shl32 1 (f : Int) else 0)) f = (bit A f && (!(bit A f && m))) := by
  have hW : W (bif (bit A f && m) then shl32 1 (f : Int) else 0) := by cases (bit A f && m); exact W.zero; exact W_shl _ _
  rw [bit_nand hA.1 hW.1 f hf]
  cases (bit A f && m) with
  | true => rw [cond_true, bit_one f f hf]; simp
  | false => rw [cond_false, bit_zero]
theorem rlook {n f : Nat} {dir o c u d ab be : Int} (h : Ok n f dir o c u d) (s : Sc n f o c u d ab be) : F31 ((n : Int), (dir, o), (f : Int), cA n c, cU n u, cD n d) =
    (ru n f o c u d ab be, rd n f o c u d ab be, rc n f o c u d ab be, decide (0 < ab), decide (0 < be), near ab be) := by
  have hn := h.n2; have hf := h.f; have h32 := h.n32
  unfold F31
  simp only
  rw [rspent h s, above_val f (by omega) s.ab, below_val f (by omega) s.be, uwrap f (by omega)]
  simp only
  have e1 : F15 ((cU n u, cD n d), (bif (bit (cU n u) f && m2 (oo n f o c u d ab be)) then shl32 1 (f : Int) else 0), (bif (bit (cD n d) f && m3 (oo n f o c u d ab be)) then shl32 1 (f : Int) else 0)) =
      (nand32 (cU n u) (bif (bit (cU n u) f && m2 (oo n f o c u d ab be)) then shl32 1 (f : Int) else 0), nand32 (cD n d) (bif (bit (cD n d) f && m3 (oo n f o c u d ab be)) then shl32 1 (f : Int) else 0)) := rfl
  rw [e1, rhas_up (W_nand _ _) f (by omega), rhas_down (W_nand _ _) f (by omega), live_bit (W_and _ _) f (by omega), live_bit (W_and _ _) f (by omega)]
  have e2 := ask_bit (W_nand (cA n c) (bif (bit (cA n c) f && (oo n f o c u d ab be != 0)) then shl32 1 (f : Int) else 0)) f
  rw [live_bit (W_and _ _) f (by omega)] at e2
  rw [e2]
  unfold near
  cases (decide (0 < ab) && ((!decide (0 < be)) || decide (be ≥ ab))) with
  | true => rfl
  | false =>
    rw [cond_false, cond_false]
    cases decide (0 < be) <;> rfl

theorem rising_ref (c u d : Bool) (ab be o : Int) : F29 (c, u, d, ab, be, o) =
    bif (F33 (1, 2, c, u, d, decide (0 < ab), decide (0 < be))).2 then (F33 (1, 2, c, u, d, decide (0 < ab), decide (0 < be))).1 else F34 (2, d, decide (0 < be)) := by
  unfold F29 F30 F33 F34 F45
  simp only [gt_iff_lt]
  generalize decide (0 < ab) = a
  generalize decide (0 < be) = b
  cases c <;> cases u <;> cases d <;> cases a <;> cases b <;> rfl
theorem falling_ref (c u d : Bool) (ab be o : Int) : F30 (c, u, d, ab, be, o) =
    bif (F33 (2, 1, c, d, u, decide (0 < be), decide (0 < ab))).2 then (F33 (2, 1, c, d, u, decide (0 < be), decide (0 < ab))).1 else F34 (1, u, decide (0 < ab)) := by
  unfold F30 F33 F34 F45
  simp only [gt_iff_lt]
  generalize decide (0 < ab) = a
  generalize decide (0 < be) = b
  cases c <;> cases u <;> cases d <;> cases a <;> cases b <;> rfl
theorem near_eq (c u d : Bool) (ab be o : Int) (ha : 0 ≤ ab) (hb : 0 ≤ be) : F43 (c, u, d, ab, be, o) = near ab be := by
  unfold F43 near
  simp only [gt_iff_lt]
  have : (be == 0) = !decide (0 < be) := by
    rw [Bool.eq_iff_iff]; simp; omega
  rw [this]
theorem near_cases (ab be : Int) : near ab be = 0 ∨ near ab be = 1 ∨ near ab be = 2 := by
  unfold near
  cases (decide (0 < ab) && ((!decide (0 < be)) || decide (be ≥ ab))) with
  | true => exact .inr (.inl rfl)
  | false =>
    rw [cond_false]
    cases decide (0 < be) with
    | true => exact .inr (.inr rfl)
    | false => exact .inl rfl
theorem resting_ref (c u d : Bool) (ab be o : Int) (ha : 0 ≤ ab) (hb : 0 ≤ be) : F28 (c, u, d, ab, be, o) =
    bif u then F35 1 else bif d then F35 2 else bif c then F35 (near ab be) else F36 (near ab be) := by
  unfold F28
  rw [near_eq c u d ab be o ha hb]
  unfold F36
  rcases near_cases ab be with h | h | h <;> rw [h] <;> cases c <;> cases u <;> cases d <;> rfl

section
variable {n f : Nat} {dir o c u d : Int}
theorem choose_val (h : Ok n f dir o c u d) : ∃ ab be, Sc n f o c u d ab be ∧ F18 ((n : Int), (dir, o), (f : Int), c, u, d) = (F20 ((n : Int), (dir, o), (f : Int), c, u, d), oo n f o c u d ab be) := by
  obtain ⟨ab, be, s, hv⟩ := scene h
  refine ⟨ab, be, s, ?_⟩
  unfold F18 F20 K20_1 K20_2
  rw [hv]
  simp only
  rw [h.guard, cond_false, proper_val n (by have := h.n2; omega) h.n32 _ _ _ h.u h.d, rlook h s]
  simp only
  have hd : dir = 0 ∨ dir = 1 ∨ dir = 2 := by have := h.dir; omega
  refine Prod.ext ?_ rfl
  rcases hd with rfl | rfl | rfl
  · rw [rules0, resting_ref _ _ _ _ _ _ s.ab.nn s.be.nn]; rfl
  · rw [rules1, rising_ref]; rfl
  · rw [rules2, falling_ref]; rfl
theorem Choose_eq (h : Ok n f dir o c u d) : F9 ((n : Int), (dir, o), (f : Int), c, u, d) = F20 ((n : Int), (dir, o), (f : Int), c, u, d) := by
  obtain ⟨ab, be, s, hv⟩ := choose_val h
  unfold F9
  simp only
  rw [h.proper, hv]; rfl
theorem Next_eq (h : Ok n f dir o c u d) : F14 ((n : Int), (dir, o), (f : Int), c, u, d) = F21 ((n : Int), (dir, o), (f : Int), c, u, d) := by
  obtain ⟨ab, be, s, hv⟩ := choose_val h
  have hb := choose_bd ((n : Int), (dir, o), (f : Int), c, u, d) h.dir.1 h.dir.2
  rw [hv] at hb
  simp only at hb
  unfold F14 F21
  simp only
  rw [h.proper, hv, h.guard, cond_false, proper_val n (by have := h.n2; omega) h.n32 _ _ _ h.u h.d]
  simp only
  rw [counted_val (W_and _ _) (W_and _ _) (W_and _ _) f (by have := h.f; have := h.n32; omega) dir o ab be s.ab s.be]
  rw [wrap_u64_of (x := (F20 ((n : Int), (dir, o), (f : Int), c, u, d)).2.2) (by omega) (by omega)]
  generalize F20 ((n : Int), (dir, o), (f : Int), c, u, d) = C
  rw [Bool.not_true, cond_false]
  cases h3 : (C.1 == 3) with
  | true => rw [show (C.1 != 3) = false from by rw [bne, h3]; rfl]; rfl
  | false => rw [show (C.1 != 3) = true from by rw [bne, h3]; rfl]; rfl
theorem Spent_eq (h : Ok n f dir o c u d) : F22 ((n : Int), (dir, o), (f : Int), c, u, d) = F23 ((n : Int), (dir, o), (f : Int), c, u, d) := by
  obtain ⟨ab, be, s, hv⟩ := scene h
  rw [rspent' h s]
  unfold F22
  simp only
  rw [h.proper, hv]
  simp only
  generalize (bit (cA n c) f && (oo n f o c u d ab be != 0)) = b1
  generalize (bit (cU n u) f && m2 (oo n f o c u d ab be)) = b2
  generalize (bit (cD n d) f && m3 (oo n f o c u d ab be)) = b3
  cases b1 <;> cases b2 <;> cases b3 <;> rfl
end
theorem proper_guard (n : Int) (w : Int × Int) (f : Int) : (((((decide (n < (2 : Int))) || (decide (n > (32 : Int)))) || (decide (f < (0 : Int)))) || (decide (f ≥ n))) || (!(F25 w))) = !F17 (n, w, f) := by
  rw [Bool.eq_iff_iff]
  unfold F25 F17 F24
  simp only [Bool.or_eq_true, Bool.not_eq_true', Bool.and_eq_false_iff, decide_eq_true_eq, decide_eq_false_iff_not]
  omega
theorem same_true (n dir o f c u d : Int) (hc : W c) (hu : W u) (hd : W d) : F16 (n, ((dir, o), f), c, u, d) = true := by
  have key : F9 (n, (dir, o), f, c, u, d) = F20 (n, (dir, o), f, c, u, d) ∧ F14 (n, (dir, o), f, c, u, d) = F21 (n, (dir, o), f, c, u, d) ∧ F22 (n, (dir, o), f, c, u, d) = F23 (n, (dir, o), f, c, u, d) := by
    cases hp : F17 (n, (dir, o), f) with
    | false =>
      have hg := proper_guard n (dir, o) f
      rw [hp] at hg
      refine ⟨?_, ?_, ?_⟩
      · unfold F9 F20
        simp only
        rw [hp, hg]; rfl
      · unfold F14 F21
        simp only
        rw [hp, hg]; rfl
      · unfold F22 F23
        simp only
        rw [hp, hg]; rfl
    | true =>
      unfold F17 F24 at hp
      simp only [Bool.and_eq_true, decide_eq_true_eq] at hp
      obtain ⟨n', rfl⟩ := Int.eq_ofNat_of_zero_le (show 0 ≤ n by omega)
      obtain ⟨f', rfl⟩ := Int.eq_ofNat_of_zero_le (show 0 ≤ f by omega)
      have hok : Ok n' f' dir o c u d := ⟨by omega, by omega, by omega, by omega, by omega, hc, hu, hd⟩
      exact ⟨Choose_eq hok, Next_eq hok, Spent_eq hok⟩
  unfold F16
  simp only
  rw [key.1, key.2.1, key.2.2]
  have hs : F24 (dir, o) = F25 (dir, o) := rfl
  rw [hs]
  simp only [beq_self_eq_true, Bool.and_self]
theorem sane_true : F11 () = true := by kernel_rfl
theorem W_of {x : Int} (h : (Lit.int .u32 x).wf = true) : W x := by
  simp only [Lit.wf, Bool.and_eq_true, decide_eq_true_eq] at h
  have h1 : (0 : Int) ≤ x := h.1
  have h2 : x ≤ (4294967295 : Int) := h.2
  unfold W; omega
theorem law_chooses (x : ct7.p.den) (h : InR ct7.p x) : ct7.F x = true := by
  obtain ⟨m, ⟨⟨dir, o⟩, f⟩, c, u, d⟩ := x
  obtain ⟨_, _, hc, hu, hd⟩ := h
  have hc := W_of hc
  have hu := W_of hu
  have hd := W_of hd
  show F7 (m, ((dir, o), f), c, u, d) = true
  unfold F7
  simp only
  generalize IntKind.i64.wrap ((2 : Int) + (IntKind.i64.wrap (Int.tmod m (31 : Int)))) = n
  have h9 : ∀ n f dr o, R7_9 (n, f, dr, c, u, d) o = none := fun n f dr o => ret_none (fun _ => True) (fun x _ => by
    unfold st7_9 K7_9_1
    simp only
    rw [same_true n dr x f c u d hc hu hd]
    have h8 : F8 ((c, u, d), 4) = (and32 c (allm (IntKind.u64.wrap 4)), and32 u (allm (IntKind.u64.wrap 4)), and32 d (allm (IntKind.u64.wrap 4))) := rfl
    rw [h8, same_true n dr x f _ _ _ (W_and _ _) (W_and _ _) (W_and _ _)]
    rw [same_true n dr x f _ _ _ (W_and _ _) (W_and _ _) W.zero]
    cases decide (x < 8) <;> simp) _ _ trivial
  have h6 : ∀ n f dr, R7_6 (n, f, c, u, d) dr = none := fun n f dr => ret_none (fun _ => True) (fun x _ => by
    unfold st7_6
    simp only [h9, optR]
    cases decide (x < 4) <;> simp) _ _ trivial
  have h3 : ∀ n f, R7_3 (n, c, u, d) f = none := fun n f => ret_none (fun _ => True) (fun x _ => by
    unfold st7_3
    simp only [h6, optR]
    cases decide (x ≤ n) <;> simp) _ _ trivial
  rw [h3, same_true _ _ _ _ c u d hc hu hd, same_true n _ _ _ c u d hc hu hd, sane_true]
  rfl

/-- The choice out of what counts. -/
def chR (dir : Int) (c u d a b l : Bool) : Int × Int × Int :=
  bif dir == 1 then (bif (F33 (1, 2, c, u, d, a, b)).2 then (F33 (1, 2, c, u, d, a, b)).1 else F34 (2, d, b))
  else bif dir == 2 then (bif (F33 (2, 1, c, d, u, b, a)).2 then (F33 (2, 1, c, d, u, b, a)).1 else F34 (1, u, a))
  else bif u then F35 1 else bif d then F35 2 else bif c then F35 (bif a && (!b || l) then 1 else bif b then 2 else 0) else F36 (bif a && (!b || l) then 1 else bif b then 2 else 0)
/-- What counts as opened. -/
def chO (o : Int) (A U D a b : Bool) : Int := bif ((((A && (!(A && (o != 0)))) || (U && (!(U && m2 o)))) || (D && (!(D && m3 o)))) || a) || b then o else 0
def ch (dir o : Int) (A U D a b l : Bool) : Int × Int × Int :=
  chR dir (A && !(A && (chO o A U D a b != 0))) (U && !(U && m2 (chO o A U D a b))) (D && !(D && m3 (chO o A U D a b))) a b l
/-- The state behind it. -/
def chN (dir o : Int) (A U D a b l : Bool) : Int × Int :=
  bif (ch dir o A U D a b l).1 == 3 then ((ch dir o A U D a b l).2.1, (IntKind.i64.wrap ((BitVec.ofInt IntKind.i64.bits (chO o A U D a b) ||| BitVec.ofInt IntKind.i64.bits (IntKind.i64.wrap ((1 : Int) * (2 ^ (min (IntKind.u64.wrap (ch dir o A U D a b l).2.2).toNat IntKind.i64.bits))))).toNat : Int))) else ((ch dir o A U D a b l).2.1, 0)

section
variable {n f : Nat} {dir o c u d : Int}
theorem choose_ch (h : Ok n f dir o c u d) : ∃ ab be, Sc n f o c u d ab be ∧ F18 ((n : Int), (dir, o), (f : Int), c, u, d) =
    (ch dir o (bit (cA n c) f) (bit (cU n u) f) (bit (cD n d) f) (decide (0 < ab)) (decide (0 < be)) (decide (be ≥ ab)), chO o (bit (cA n c) f) (bit (cU n u) f) (bit (cD n d) f) (decide (0 < ab)) (decide (0 < be))) := by
  obtain ⟨ab, be, s, hv⟩ := scene h
  refine ⟨ab, be, s, ?_⟩
  unfold F18
  rw [hv]
  simp only
  have hd : dir = 0 ∨ dir = 1 ∨ dir = 2 := by have := h.dir; omega
  refine Prod.ext ?_ rfl
  rcases hd with rfl | rfl | rfl
  · rw [rules0, resting_ref _ _ _ _ _ _ s.ab.nn s.be.nn]; rfl
  · rw [rules1, rising_ref]; rfl
  · rw [rules2, falling_ref]; rfl
theorem Choose_ch (h : Ok n f dir o c u d) : ∃ ab be, Sc n f o c u d ab be ∧
    F9 ((n : Int), (dir, o), (f : Int), c, u, d) = ch dir o (bit (cA n c) f) (bit (cU n u) f) (bit (cD n d) f) (decide (0 < ab)) (decide (0 < be)) (decide (be ≥ ab)) ∧
    F14 ((n : Int), (dir, o), (f : Int), c, u, d) = chN dir o (bit (cA n c) f) (bit (cU n u) f) (bit (cD n d) f) (decide (0 < ab)) (decide (0 < be)) (decide (be ≥ ab)) := by
  obtain ⟨ab, be, s, hv⟩ := choose_ch h
  have hb := choose_bd ((n : Int), (dir, o), (f : Int), c, u, d) h.dir.1 h.dir.2
  refine ⟨ab, be, s, ?_, ?_⟩
  · unfold F9
    simp only
    rw [h.proper, hv]; rfl
  · unfold F14 chN
    simp only
    rw [h.proper, hv]
    rw [hv] at hb
    simp only at hb ⊢
    generalize hC : ch dir o (bit (cA n c) f) (bit (cU n u) f) (bit (cD n d) f) (decide (0 < ab)) (decide (0 < be)) (decide (be ≥ ab)) = C at hb ⊢
    rw [wrap_u64_of (x := C.2.2) (by omega) (by omega), Bool.not_true, cond_false]
    cases h3 : (C.1 == 3) with
    | true => rw [show (C.1 != 3) = false from by rw [bne, h3]; rfl]; rfl
    | false => rw [show (C.1 != 3) = true from by rw [bne, h3]; rfl]; rfl
/-- Above and below. -/
theorem Sc.up_iff {ab be : Int} (s : Sc n f o c u d ab be) : (decide (0 < ab) = true) ↔ ∃ i, f < i ∧ bit (cS (cA n c) (cU n u) (cD n d)) i = true := by
  rw [decide_eq_true_eq]
  rcases s.ab with ⟨h1, h2⟩ | ⟨k, h1, h2, _, h4⟩
  · exact ⟨fun h => by omega, fun ⟨i, hi, hb⟩ => by rw [h2 i hi] at hb; cases hb⟩
  · exact ⟨fun _ => ⟨k, h1, h2⟩, fun _ => by omega⟩
theorem Sc.down_iff {ab be : Int} (s : Sc n f o c u d ab be) : (decide (0 < be) = true) ↔ ∃ i, i < f ∧ bit (cS (cA n c) (cU n u) (cD n d)) i = true := by
  rw [decide_eq_true_eq]
  rcases s.be with ⟨h1, h2⟩ | ⟨k, h1, h2, _, h4⟩
  · exact ⟨fun h => by omega, fun ⟨i, hi, hb⟩ => by rw [h2 i hi] at hb; cases hb⟩
  · exact ⟨fun _ => ⟨k, h1, h2⟩, fun _ => by omega⟩
theorem bit_cA (hn : n ≤ 32) (hc : W c) (i : Nat) : bit (cA n c) i = (bit c i && decide (i < n)) := by
  rcases Nat.lt_or_ge i 32 with hi | hi
  · rw [bit_and hc.1 (W_allm _).1 i hi, bit_allm n i hn]
  · rw [bit_hi (W_and _ _) hi, bit_hi hc hi, Bool.false_and]
theorem bit_cU (hn : n ≤ 32) (hu : W u) (i : Nat) : bit (cU n u) i = (bit u i && decide (i + 1 < n)) := by
  rcases Nat.lt_or_ge i 32 with hi | hi
  · have e : bit (shr32 (allm (n : Int)) 1) i = bit (allm (n : Int)) (1 + i) := bit_shr (W_allm _) 1 i
    rw [bit_and hu.1 (W_shr (W_allm _) _ (by omega)).1 i hi, e, bit_allm n _ hn, Nat.add_comm 1 i]
  · rw [bit_hi (W_and _ _) hi, bit_hi hu hi, Bool.false_and]
theorem bit_cD (hn : n ≤ 32) (hd : W d) (i : Nat) : bit (cD n d) i = (bit d i && decide (0 < i ∧ i < n)) := by
  rcases Nat.lt_or_ge i 32 with hi | hi
  · rw [bit_and hd.1 (W_nand _ _).1 i hi, bit_nand (W_allm _).1 (by omega) i hi, bit_allm n _ hn, bit1 i hi]
    congr 1
    rw [Bool.eq_iff_iff]; simp; omega
  · rw [bit_hi (W_and _ _) hi, bit_hi hd hi, Bool.false_and]
end

/-! What the choice does, at every combination. -/
set_option synthInstance.maxHeartbeats 400000
set_option synthInstance.maxSize 4096
theorem S1 : ∀ dir, dir < 3 → ∀ o, o < 8 → ∀ A U D a b l : Bool, (a || b) = true →
    (ch ((dir : Nat) : Int) ((o : Nat) : Int) A U D a b l = (1, 1, 0) ∧ a = true ∧ ¬ (dir = 2 ∧ b = true) ∧ chN dir o A U D a b l = (1, 0)) ∨
    (ch dir o A U D a b l = (2, 2, 0) ∧ b = true ∧ ¬ (dir = 1 ∧ a = true) ∧ chN dir o A U D a b l = (2, 0)) ∨
    (ch dir o A U D a b l = (3, 1, 1) ∧ o % 4 < 2 ∧ ¬ (dir = 2 ∧ b = true) ∧ chN dir o A U D a b l = (1, (o : Int) + 2)) ∨
    (ch dir o A U D a b l = (3, 2, 2) ∧ o < 4 ∧ ¬ (dir = 1 ∧ a = true) ∧ chN dir o A U D a b l = (2, (o : Int) + 4)) := by decide +kernel
theorem S2u : ∀ dir, dir < 3 → ∀ o, o < 8 → ∀ A D a b l : Bool,
    ch ((dir : Nat) : Int) ((o : Nat) : Int) A true D a b l = (3, 1, 1) ∨
    (¬ (o % 4 < 2 ∧ dir ≠ 2) ∧ ch dir o A true D a b l = (3, 2, 2) ∧ o < 4 ∧ chN dir o A true D a b l = (2, (o : Int) + 4)) ∨
    (¬ (o % 4 < 2) ∧ ¬ (o < 4) ∧ ch dir o A true D a b l = (3, 2, 2) ∧ chN dir o A true D a b l = (2, 4)) ∨
    (¬ (o % 4 < 2 ∧ dir ≠ 2) ∧ ch dir o A true D a b l = (2, 2, 0) ∧ b = true ∧ chN dir o A true D a b l = (2, 0)) ∨
    (¬ (o % 4 < 2) ∧ ch dir o A true D a b l = (1, 1, 0) ∧ a = true ∧ chN dir o A true D a b l = (1, 0)) := by decide +kernel
theorem S2d : ∀ dir, dir < 3 → ∀ o, o < 8 → ∀ A U a b l : Bool,
    ch ((dir : Nat) : Int) ((o : Nat) : Int) A U true a b l = (3, 2, 2) ∨
    (¬ (o < 4 ∧ dir = 2) ∧ ch dir o A U true a b l = (3, 1, 1) ∧ o % 4 < 2 ∧ chN dir o A U true a b l = (1, (o : Int) + 2)) ∨
    (¬ (o < 4) ∧ ¬ (o % 4 < 2) ∧ ch dir o A U true a b l = (3, 1, 1) ∧ chN dir o A U true a b l = (1, 2)) ∨
    (¬ (o < 4 ∧ dir ≠ 1) ∧ ch dir o A U true a b l = (1, 1, 0) ∧ a = true ∧ chN dir o A U true a b l = (1, 0)) ∨
    (¬ (o < 4) ∧ ch dir o A U true a b l = (2, 2, 0) ∧ b = true ∧ chN dir o A U true a b l = (2, 0)) := by decide +kernel
theorem S3 : ∀ dir, dir < 3 → ∀ o, o < 8 → ∀ U D a b l : Bool,
    (ch ((dir : Nat) : Int) ((o : Nat) : Int) true U D a b l).1 = 3 ∨
    (o ≠ 0 ∧ ch dir o true U D a b l = (2, 2, 0) ∧ b = true ∧ chN dir o true U D a b l = (2, 0)) ∨
    (o ≠ 0 ∧ ch dir o true U D a b l = (1, 1, 0) ∧ a = true ∧ chN dir o true U D a b l = (1, 0)) := by decide +kernel
/-- What a move is for. -/
def okM (t e a b A U D : Bool) (o : Nat) (c : Int × Int × Int) : Bool :=
  (c.1 == 1 && (a && c.2.1 == 1 && c.2.2 == 0)) || (c.1 == 2 && (b && c.2.1 == 2 && c.2.2 == 0)) ||
  (c.1 == 3 && ((A || U || D) && c.2.1 == c.2.2 && !(c.2.2 == 1 && t) && !(c.2.2 == 2 && e) && !((a || b) && o.testBit c.2.2.toNat) && (0 ≤ c.2.2 && c.2.2 ≤ 2))) ||
  (c.1 == 0 && (!(A || U || D) && !a && !b && c == (0, 0, 0)))
theorem S4 : ∀ dir, dir < 3 → ∀ o, o < 8 → ∀ t e A U D a b l : Bool, (t && (U || a)) = false → (e && (D || b)) = false → okM t e a b A U D o (ch ((dir : Nat) : Int) ((o : Nat) : Int) A U D a b l) = true := by decide +kernel
/-- Up and down are alike. -/
def mirD (d : Int) : Int := bif d == 1 then 2 else bif d == 2 then 1 else d
def mirO (o : Nat) : Nat := o % 2 + (o / 2 % 2) * 4 + (o / 4 % 2) * 2
theorem S5 : ∀ o, o < 8 → ∀ A U D a b l l' : Bool,
    ch 2 ((mirO o : Nat) : Int) A D U b a l' = (mirD (ch 1 ((o : Nat) : Int) A U D a b l).1, mirD (ch 1 o A U D a b l).2.1, mirD (ch 1 o A U D a b l).2.2) ∧
    ch 1 (mirO o) A D U b a l' = (mirD (ch 2 o A U D a b l).1, mirD (ch 2 o A U D a b l).2.1, mirD (ch 2 o A U D a b l).2.2) := by decide +kernel
theorem S6 : ∀ dir, dir < 3 → ∀ o, o < 8 → ∀ A U D a b l : Bool,
    0 ≤ (ch ((dir : Nat) : Int) ((o : Nat) : Int) A U D a b l).1 ∧ (ch ((dir : Nat) : Int) ((o : Nat) : Int) A U D a b l).1 ≤ 3 ∧ 0 ≤ (ch ((dir : Nat) : Int) ((o : Nat) : Int) A U D a b l).2.1 ∧ (ch ((dir : Nat) : Int) ((o : Nat) : Int) A U D a b l).2.1 ≤ 2 ∧ 0 ≤ (ch ((dir : Nat) : Int) ((o : Nat) : Int) A U D a b l).2.2 ∧ (ch ((dir : Nat) : Int) ((o : Nat) : Int) A U D a b l).2.2 ≤ 2 := by decide +kernel
end Go.Proofs.YtidnlehjabhclaaDoor.Sp
