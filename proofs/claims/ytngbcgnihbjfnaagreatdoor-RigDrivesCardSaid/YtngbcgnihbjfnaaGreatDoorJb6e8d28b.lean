/- Own texts joined by pk.py. -/
import Derived.Test.YtngbcgnihbjfnaaGreatDoorJ540f6f8f
import Derived.Test.YtngbcgnihbjfnaaGreatDoorJ2c53b97b
import Derived.Test.YtngbcgnihbjfnaaGreatDoorJf2cdb999
import Derived.Test.YtngbcgnihbjfnaaGreatDoorTie
import Derived.Test.YtngbcgnihbjfnaaGreatDoorCards
import Derived.Lib.LaidTab
import Derived.ProofKit
import Derived.LaidMore
import Derived.OpenShut
import Derived.Stop.Joined
import Derived.SevenTiedAt
import Derived.Test.YtngbcgnihbjfnaaGreatDoorRows
section
/- Collective: the program's scene and the reference's, the program is the reference, choices at every combination (own work; the part without law 11). -/
namespace Go.Proofs.YtngbcgnihbjfnaaGreatDoor.Sp
open Go Sy
set_option linter.unusedVariables false
set_option linter.unusedSimpArgs false
set_option maxRecDepth 10000
abbrev cA (n : Nat) (c : Int) : Int := and32 c (allm (n : Int))
abbrev cU (n : Nat) (u : Int) : Int := and32 u (shr32 (allm (n : Int)) 1)
abbrev cD (n : Nat) (d : Int) : Int := and32 d (nand32 (allm (n : Int)) 1)
abbrev cS (A U D : Int) : Int := or32 (or32 A U) D
theorem W_cS (A U D : Int) : W (cS A U D) := W_or _ _
theorem bit_cS {A U D : Int} (hA : W A) (hU : W U) (hD : W D) (i : Nat) (hi : i < 32) : bit (cS A U D) i = (bit A i || bit U i || bit D i) := by
  rw [bit_or (W_or _ _).1 hD.1 i hi, bit_or hA.1 hU.1 i hi]
theorem and_zero {a : Int} (ha : W a) : and32 a 0 = 0 := W.ext (W_and _ _) W.zero fun i hi => by rw [bit_and ha.1 (by omega) i hi, bit_zero, Bool.and_false]
theorem has_up {U D : Int} (hU : W U) (hD : W D) (f : Nat) (hf : f < 32) : F106 ((U, D), (f : Int), 1) = bit U f := by
  have h1 : F112 ((f : Int), 1) = (shl32 1 (f : Int), 0) := by
    unfold F112
    have : (decide ((f : Int) ≥ 0) && decide ((f : Int) < 32)) = true := by simp; omega
    rw [this]; rfl
  unfold F106
  rw [h1]
  show (!((and32 U (shl32 1 (f : Int)) == 0) && (and32 D 0 == 0))) = _
  rw [and_zero hD, and_shl hU f hf]
  cases hb : bit U f with
  | false => rfl
  | true =>
    rw [cond_true]
    have : shl32 1 (f : Int) ≠ 0 := ne_zero_of (i := f) (by rw [bit_one f f hf]; simp)
    simp [this]
theorem has_down {U D : Int} (hU : W U) (hD : W D) (f : Nat) (hf : f < 32) : F106 ((U, D), (f : Int), 2) = bit D f := by
  have h1 : F112 ((f : Int), 2) = (0, shl32 1 (f : Int)) := by
    unfold F112
    have : (decide ((f : Int) ≥ 0) && decide ((f : Int) < 32)) = true := by simp; omega
    rw [this]; rfl
  unfold F106
  rw [h1]
  show (!((and32 U 0 == 0) && (and32 D (shl32 1 (f : Int)) == 0))) = _
  rw [and_zero hU, and_shl hD f hf]
  cases hb : bit D f with
  | false => rfl
  | true =>
    rw [cond_true]
    have : shl32 1 (f : Int) ≠ 0 := ne_zero_of (i := f) (by rw [bit_one f f hf]; simp)
    simp [this]
theorem look_eq (n f : Nat) (w : Int × Int) (c u d : Int) : F100 ((n : Int), w, (f : Int), c, u, d) =
    bif (shr32 (shr32 (cS (cA n c) (cU n u) (cD n d)) (f : Int)) 1 != 0) then
      (bif (and32 (cS (cA n c) (cU n u) (cD n d)) (allm (f : Int)) != 0) then
        (and32 (shr32 c (f : Int)) 1 == 1, F106 ((cU n u, cD n d), (f : Int), 1), F106 ((cU n u, cD n d), (f : Int), 2), IntKind.i64.wrap (1 + F107 (shr32 (shr32 (cS (cA n c) (cU n u) (cD n d)) (f : Int)) 1)), IntKind.i64.wrap (IntKind.i64.wrap ((f : Int) - F108 (and32 (cS (cA n c) (cU n u) (cD n d)) (allm (f : Int)))) + 1), w.2)
      else (and32 (shr32 c (f : Int)) 1 == 1, F106 ((cU n u, cD n d), (f : Int), 1), F106 ((cU n u, cD n d), (f : Int), 2), IntKind.i64.wrap (1 + F107 (shr32 (shr32 (cS (cA n c) (cU n u) (cD n d)) (f : Int)) 1)), 0, w.2))
    else
      bif (and32 (cS (cA n c) (cU n u) (cD n d)) (allm (f : Int)) != 0) then
        (and32 (shr32 c (f : Int)) 1 == 1, F106 ((cU n u, cD n d), (f : Int), 1), F106 ((cU n u, cD n d), (f : Int), 2), 0, IntKind.i64.wrap (IntKind.i64.wrap ((f : Int) - F108 (and32 (cS (cA n c) (cU n u) (cD n d)) (allm (f : Int)))) + 1), w.2)
      else (and32 (shr32 c (f : Int)) 1 == 1, F106 ((cU n u, cD n d), (f : Int), 1), F106 ((cU n u, cD n d), (f : Int), 2), 0, 0, w.2) := by kernel_rfl
theorem look_val (n f : Nat) (hn : n ≤ 32) (hf : f < n) (w : Int × Int) (c u d : Int) (hc : W c) : ∃ ab be, AboveS (cS (cA n c) (cU n u) (cD n d)) f ab ∧ BelowS (cS (cA n c) (cU n u) (cD n d)) f be ∧
    F100 ((n : Int), w, (f : Int), c, u, d) = (bit (cA n c) f, bit (cU n u) f, bit (cD n d) f, ab, be, w.2) := by
  rw [look_eq, ask_bit hc f, has_up (W_and _ _) (W_and _ _) f (by omega), has_down (W_and _ _) (W_and _ _) f (by omega)]
  have hcA : bit c f = bit (cA n c) f := by
    rw [bit_and hc.1 (W_allm _).1 f (by omega), bit_allm n f hn]; simp [hf]
  rw [hcA]
  have hS : W (cS (cA n c) (cU n u) (cD n d)) := W_cS _ _ _
  generalize cS (cA n c) (cU n u) (cD n d) = S at hS
  obtain ⟨a1, a2⟩ := above_tz hS f (by omega)
  obtain ⟨b1, b2⟩ := below_len hS f (by omega)
  generalize shr32 (shr32 S (f : Int)) 1 = V at a1 a2
  generalize and32 S (allm (f : Int)) = B at b1 b2
  by_cases hV : V = 0
  · have hVb : (V != 0) = false := by simp [hV]
    rw [hVb, cond_false]
    by_cases hB : B = 0
    · have hBb : (B != 0) = false := by simp [hB]
      rw [hBb, cond_false]
      exact ⟨0, 0, .inl ⟨rfl, a1 hV⟩, .inl ⟨rfl, b1 hB⟩, rfl⟩
    · have hBb : (B != 0) = true := by simp [hB]
      rw [hBb, cond_true]
      obtain ⟨h1, h2, h3⟩ := b2 hB
      rw [wrap_i64_of (x := (f : Int) - _) (by omega) (by omega), wrap_i64_of (by omega) (by omega)]
      exact ⟨0, _, .inl ⟨rfl, a1 hV⟩, h1, rfl⟩
  · have hVb : (V != 0) = true := by simp [hV]
    rw [hVb, cond_true]
    obtain ⟨g1, g2, g3⟩ := a2 hV
    rw [wrap_i64_of (x := 1 + _) (by omega) (by omega)]
    by_cases hB : B = 0
    · have hBb : (B != 0) = false := by simp [hB]
      rw [hBb, cond_false]
      exact ⟨_, 0, g1, .inl ⟨rfl, b1 hB⟩, rfl⟩
    · have hBb : (B != 0) = true := by simp [hB]
      rw [hBb, cond_true]
      obtain ⟨h1, h2, h3⟩ := b2 hB
      rw [wrap_i64_of (x := (f : Int) - _) (by omega) (by omega), wrap_i64_of (x := (f : Int) - _ + 1) (by omega) (by omega)]
      exact ⟨_, _, g1, h1, rfl⟩
theorem proper_val (n : Nat) (h1 : 1 ≤ n) (hn : n ≤ 32) (c u d : Int) (hu : W u) (hd : W d) : F72 ((n : Int), c, u, d) = (cA n c, cU n u, cD n d) := by
  unfold F72
  have hb : (decide ((n : Int) < 1) || decide ((n : Int) > 32)) = false := by simp; omega
  simp only
  rw [hb, cond_false, wrap_i64_of (x := (n : Int) - 1) (by omega) (by omega), wrap_u64_of (x := (n : Int)) (by omega) (by omega), wrap_u64_of (x := (n : Int) - 1) (by omega) (by omega)]
  have e1 : nand32 (and32 u (allm (n : Int))) (shl32 1 ((n : Int) - 1)) = cU n u := by
    refine W.ext (W_nand _ _) (W_and _ _) fun i hi => ?_
    rw [show ((n : Int) - 1) = ((n - 1 : Nat) : Int) by omega]
    have hs := bit_shr (W_allm (n : Int)) 1 i
    rw [show (((1 : Nat) : Int)) = 1 from rfl] at hs
    rw [bit_nand (W_and _ _).1 (W_shl _ _).1 i hi, bit_and hu.1 (W_allm _).1 i hi, bit_and hu.1 (W_shr (W_allm _) 1 (by omega)).1 i hi, hs, bit_allm n _ hn, bit_allm n _ hn, bit_one _ i hi]
    by_cases h : i + 1 < n
    · have h2 : i < n := by omega
      have h3 : ¬ i = n - 1 := by omega
      simp [h2, h3, Nat.add_comm 1 i, h]
    · by_cases h2 : i = n - 1
      · simp [h2]; omega
      · have h3 : ¬ i < n := by omega
        simp [h3, Nat.add_comm 1 i, h]
  have e2 : nand32 (and32 d (allm (n : Int))) 1 = cD n d := by
    refine W.ext (W_nand _ _) (W_and _ _) fun i hi => ?_
    rw [bit_nand (W_and _ _).1 (by omega) i hi, bit_and hd.1 (W_allm _).1 i hi, bit_and hd.1 (W_nand _ _).1 i hi, bit_nand (W_allm _).1 (by omega) i hi, Bool.and_assoc]
  exact Prod.ext rfl (Prod.ext e1 e2)
theorem above_val {A U D : Int} (f : Nat) (hf : f < 32) {ab : Int} (h : AboveS (cS A U D) f ab) : F97 ((A, U, D), (f : Int)) = (decide (0 < ab), ab) := by
  have hS : W (cS A U D) := W_cS A U D
  unfold F97
  simp only
  rw [wrap_i64_of (x := (f : Int) + 1) (by omega) (by omega)]
  have hround : ∀ i : Nat, f + 1 + i < 32 → bit (cS A U D) (f + 1 + i) = false → st97_2 ((f : Int), A, U, D) ((f + 1 + i : Nat) : Int) = .next ((f : Int), A, U, D) ((f + 1 + (i + 1) : Nat) : Int) := fun i hi hb => by
    unfold st97_2
    simp only
    have hd : decide (((f + 1 + i : Nat) : Int) < 32) = true := by simp; omega
    rw [hd, cond_true, wrap_u64_of (x := ((f + 1 + i : Nat) : Int)) (by omega) (by omega)]
    have ha := ask_bit hS (f + 1 + i)
    rw [hb] at ha
    rw [ha, cond_false, wrap_i64_of (by omega) (by omega)]
    congr 1
  have hw : ((f : Int) + 1) = ((f + 1 + 0 : Nat) : Int) := by omega
  rcases h with ⟨h1, h2⟩ | ⟨k, h1, h2, h3, h4⟩
  · have hbrk : st97_2 ((f : Int), A, U, D) ((f + 1 + (31 - f) : Nat) : Int) = .brk ((f : Int), A, U, D) ((f + 1 + (31 - f) : Nat) : Int) := by
      unfold st97_2
      have hd : decide (((f + 1 + (31 - f) : Nat) : Int) < 32) = false := by simp; omega
      rw [hd, cond_false]
    have := (end_row_brk (step := st97_2) (fun i : Nat => ((f + 1 + i : Nat) : Int)) (31 - f) (fun i hi => ⟨_, hround i (by omega) (h2 _ (by omega))⟩) hbrk (fuel := Nat.succ (mu97_2 ((f : Int), A, U, D) ((f : Int) + 1))) (by unfold mu97_2; omega)).2
    unfold R97_2
    simp only [← hw] at this
    rw [this, h1]
    rfl
  · have hk := bit_lt hS h2
    have hret : st97_2 ((f : Int), A, U, D) ((f + 1 + (k - f - 1) : Nat) : Int) = .ret (true, ab) := by
      unfold st97_2
      simp only
      rw [show f + 1 + (k - f - 1) = k by omega]
      have hd : decide ((k : Int) < 32) = true := by simp; omega
      have ha := ask_bit hS k
      rw [h2] at ha
      rw [hd, cond_true, wrap_u64_of (x := (k : Int)) (by omega) (by omega), ha, cond_true, wrap_i64_of (by omega) (by omega), h4]
    have := end_row_ret (step := st97_2) (fun i : Nat => ((f + 1 + i : Nat) : Int)) (k - f - 1) (fun i hi => ⟨_, hround i (by omega) (h3 _ (by omega) (by omega))⟩) hret (fuel := Nat.succ (mu97_2 ((f : Int), A, U, D) ((f : Int) + 1))) (by unfold mu97_2; omega)
    unfold R97_2
    simp only [← hw] at this
    rw [this]
    have : decide (0 < ab) = true := by simp; omega
    rw [this]
    rfl
theorem below_val {A U D : Int} (f : Nat) (hf : f < 32) {be : Int} (h : BelowS (cS A U D) f be) : F98 ((A, U, D), (f : Int)) = (decide (0 < be), be) := by
  have hS : W (cS A U D) := W_cS A U D
  unfold F98
  simp only
  rw [wrap_i64_of (x := (f : Int) - 1) (by omega) (by omega)]
  have hround : ∀ i : Nat, i < f → bit (cS A U D) (f - 1 - i) = false → st98_2 ((f : Int), A, U, D) ((f : Int) - 1 - (i : Int)) = .next ((f : Int), A, U, D) ((f : Int) - 1 - ((i + 1 : Nat) : Int)) := fun i hi hb => by
    unfold st98_2
    simp only
    have he : (f : Int) - 1 - (i : Int) = ((f - 1 - i : Nat) : Int) := by omega
    have hd : decide ((f : Int) - 1 - (i : Int) ≥ 0) = true := by simp; omega
    rw [hd, cond_true, he, wrap_u64_of (x := ((f - 1 - i : Nat) : Int)) (by omega) (by omega)]
    have ha := ask_bit hS (f - 1 - i)
    rw [hb] at ha
    rw [ha, cond_false, wrap_i64_of (by omega) (by omega)]
    congr 1
    omega
  have hw : ((f : Int) - 1) = (f : Int) - 1 - ((0 : Nat) : Int) := by omega
  rcases h with ⟨h1, h2⟩ | ⟨k, h1, h2, h3, h4⟩
  · have hbrk : st98_2 ((f : Int), A, U, D) ((f : Int) - 1 - (f : Int)) = .brk ((f : Int), A, U, D) ((f : Int) - 1 - (f : Int)) := by
      unfold st98_2
      have hd : decide ((f : Int) - 1 - (f : Int) ≥ 0) = false := by simp; omega
      rw [hd, cond_false]
    have := (end_row_brk (step := st98_2) (fun i : Nat => (f : Int) - 1 - (i : Int)) f (fun i hi => ⟨_, hround i hi (h2 _ (by omega))⟩) hbrk (fuel := Nat.succ (mu98_2 ((f : Int), A, U, D) ((f : Int) - 1))) (by unfold mu98_2; omega)).2
    unfold R98_2
    simp only [← hw] at this
    rw [this, h1]
    rfl
  · have hret : st98_2 ((f : Int), A, U, D) ((f : Int) - 1 - ((f - 1 - k : Nat) : Int)) = .ret (true, be) := by
      unfold st98_2
      simp only
      rw [show (f : Int) - 1 - ((f - 1 - k : Nat) : Int) = (k : Int) by omega]
      have hd : decide ((k : Int) ≥ 0) = true := by simp
      have ha := ask_bit hS k
      rw [h2] at ha
      rw [hd, cond_true, wrap_u64_of (x := (k : Int)) (by omega) (by omega), ha, cond_true, wrap_i64_of (by omega) (by omega), h4]
    have := end_row_ret (step := st98_2) (fun i : Nat => (f : Int) - 1 - (i : Int)) (f - 1 - k) (fun i hi => ⟨_, hround i (by omega) (h3 _ (by omega) (by omega))⟩) hret (fuel := Nat.succ (mu98_2 ((f : Int), A, U, D) ((f : Int) - 1))) (by unfold mu98_2; omega)
    unfold R98_2
    simp only [← hw] at this
    rw [this]
    have : decide (0 < be) = true := by simp; omega
    rw [this]
    rfl
abbrev m2p (o : Int) : Bool := (IntKind.i64.wrap ((BitVec.ofInt IntKind.i64.bits (Int.fdiv o (2 ^ (min ((1 : Int)).toNat IntKind.i64.bits))) &&& BitVec.ofInt IntKind.i64.bits (1 : Int)).toNat : Int)) == (1 : Int)
abbrev m3p (o : Int) : Bool := (IntKind.i64.wrap ((BitVec.ofInt IntKind.i64.bits (Int.fdiv o (2 ^ (min ((2 : Int)).toNat IntKind.i64.bits))) &&& BitVec.ofInt IntKind.i64.bits (1 : Int)).toNat : Int)) == (1 : Int)
abbrev m2 (o : Int) : Bool := (IntKind.i64.wrap ((BitVec.ofInt IntKind.i64.bits o &&& BitVec.ofInt IntKind.i64.bits (2 : Int)).toNat : Int)) != (0 : Int)
abbrev m3 (o : Int) : Bool := (IntKind.i64.wrap ((BitVec.ofInt IntKind.i64.bits o &&& BitVec.ofInt IntKind.i64.bits (4 : Int)).toNat : Int)) != (0 : Int)
theorem m2_eq : ∀ o : Nat, o < 8 → m2p (o : Int) = m2 (o : Int) := by decide +kernel
theorem m3_eq : ∀ o : Nat, o < 8 → m3p (o : Int) = m3 (o : Int) := by decide +kernel
def more (a u d : Bool) (ab be o : Int) : Bool := ((((a && (!(a && (o != 0)))) || (u && (!(u && m2 o)))) || (d && (!(d && m3 o)))) || decide (0 < ab)) || decide (0 < be)
def opd (a u d : Bool) (ab be o : Int) : Int := bif more a u d ab be o then o else 0
theorem without_val (a u d : Bool) (ab be : Int) (o : Nat) (ho : o < 8) : F101 (a, u, d, ab, be, (o : Int)) =
    ((a && (!(a && (opd a u d ab be o != 0))), u && (!(u && m2 (opd a u d ab be o))), d && (!(d && m3 (opd a u d ab be o))), ab, be, opd a u d ab be o),
      a && (opd a u d ab be o != 0), u && m2 (opd a u d ab be o), d && m3 (opd a u d ab be o), 0, 0, 0) := by
  have h : F101 (a, u, d, ab, be, (o : Int)) = bif ((((a && (!(a && ((o : Int) != 0)))) || (u && (!(u && m2p o)))) || (d && (!(d && m3p o)))) || decide (ab > 0)) || decide (be > 0) then
      ((a && (!(a && ((o : Int) != 0))), u && (!(u && m2p o)), d && (!(d && m3p o)), ab, be, (o : Int)), a && ((o : Int) != 0), u && m2p o, d && m3p o, 0, 0, 0) else ((a, u, d, ab, be, 0), false, false, false, 0, 0, 0) := rfl
  rw [h, m2_eq o ho, m3_eq o ho]
  show (bif more a u d ab be o then _ else _) = _
  unfold opd
  cases more a u d ab be o with
  | true => rfl
  | false =>
    rw [cond_false, cond_false]
    have h2 : m2 0 = false := by decide +kernel
    have h3 : m3 0 = false := by decide +kernel
    rw [h2, h3]
    cases a <;> cases u <;> cases d <;> rfl
theorem marked_val {A U D : Int} (hA : W A) (hU : W U) (hD : W D) (f : Nat) (hf : f < 32) (dir o : Int) : F99 ((dir, o), (f : Int), A, U, D) =
    (bif (bit A f && (o != 0)) then shl32 1 (f : Int) else 0, bif (bit U f && m2 o) then shl32 1 (f : Int) else 0, bif (bit D f && m3 o) then shl32 1 (f : Int) else 0) := by
  have h : F99 ((dir, o), (f : Int), A, U, D) = (bif (o != 0) then and32 A (shl32 1 (IntKind.u64.wrap (f : Int))) else 0, bif m2 o then and32 U (shl32 1 (IntKind.u64.wrap (f : Int))) else 0, bif m3 o then and32 D (shl32 1 (IntKind.u64.wrap (f : Int))) else 0) := by
    unfold F99
    unfold m2 m3
    simp only
    generalize ((IntKind.i64.wrap ((BitVec.ofInt IntKind.i64.bits o &&& BitVec.ofInt IntKind.i64.bits (2 : Int)).toNat : Int)) != (0 : Int)) = b2
    generalize ((IntKind.i64.wrap ((BitVec.ofInt IntKind.i64.bits o &&& BitVec.ofInt IntKind.i64.bits (4 : Int)).toNat : Int)) != (0 : Int)) = b3
    cases (o != 0) <;> cases b2 <;> cases b3 <;> rfl
  rw [h, wrap_u64_of (x := (f : Int)) (by omega) (by omega), and_shl hA f hf, and_shl hU f hf, and_shl hD f hf]
  generalize m2 o = b2
  generalize m3 o = b3
  generalize shl32 1 (f : Int) = q
  cases (o != 0) <;> cases b2 <;> cases b3 <;> cases bit A f <;> cases bit U f <;> cases bit D f <;> rfl
theorem mark_eq {A : Int} (hA : W A) (f : Nat) (hf : f < 32) (m : Bool) : ((bif (bit A f && m) then shl32 1 (f : Int) else 0) == A) = true ↔ (bit A f = true → m = true) ∧ ∀ i, i ≠ f → bit A i = false := by
  rw [beq_iff_eq]
  constructor
  · intro h
    refine ⟨fun hb => ?_, fun i hi => ?_⟩
    · cases m with
      | true => rfl
      | false =>
        rw [Bool.and_false, cond_false] at h
        rw [← h, bit_zero] at hb; cases hb
    · rcases Nat.lt_or_ge i 32 with h32 | h32
      · rw [← h]
        cases (bit A f && m) with
        | true => rw [cond_true, bit_one f i h32]; simpa using hi
        | false => exact bit_zero i
      · exact bit_hi hA h32
  · rintro ⟨h1, h2⟩
    refine W.ext (by cases (bit A f && m); exact W.zero; exact W_shl _ _) hA fun i hi => ?_
    by_cases hif : i = f
    · subst hif
      cases hb : bit A i with
      | true => rw [h1 hb]; simp [bit_one i i hi]
      | false => simp [bit_zero]
    · rw [h2 i hif]
      cases (bit A f && m) with
      | true => rw [cond_true, bit_one f i hi]; simpa using hif
      | false => exact bit_zero i
theorem counted_val {A U D : Int} (hA : W A) (hU : W U) (hD : W D) (f : Nat) (hf : f < 32) (dir o ab be : Int) (ha : AboveS (cS A U D) f ab) (hb : BelowS (cS A U D) f be) :
    F77 ((dir, o), (f : Int), A, U, D) = opd (bit A f) (bit U f) (bit D f) ab be o := by
  unfold F77 opd
  rw [marked_val hA hU hD f hf]
  have key : (((bif (bit A f && (o != 0)) then shl32 1 (f : Int) else 0) == A) && (((bif (bit U f && m2 o) then shl32 1 (f : Int) else 0) == U) && ((bif (bit D f && m3 o) then shl32 1 (f : Int) else 0) == D))) = !more (bit A f) (bit U f) (bit D f) ab be o := by
    rw [Bool.eq_iff_iff]
    rw [Bool.and_eq_true, Bool.and_eq_true, mark_eq hA f hf, mark_eq hU f hf, mark_eq hD f hf]
    unfold more
    simp only [Bool.not_eq_true', Bool.or_eq_false_iff, decide_eq_false_iff_not]
    rw [ha.none, hb.none]
    have hs : ∀ i, bit (cS A U D) i = false ↔ bit A i = false ∧ bit U i = false ∧ bit D i = false := fun i => by
      rcases Nat.lt_or_ge i 32 with h32 | h32
      · rw [bit_cS hA hU hD i h32]
        simp only [Bool.or_eq_false_iff]
        exact and_assoc
      · simp [bit_hi (W_cS A U D) h32, bit_hi hA h32, bit_hi hU h32, bit_hi hD h32]
    constructor
    · rintro ⟨⟨h1, h2⟩, ⟨h3, h4⟩, h5, h6⟩
      refine ⟨⟨⟨⟨?_, ?_⟩, ?_⟩, fun i hi => (hs i).2 ⟨h2 i (by omega), h4 i (by omega), h6 i (by omega)⟩⟩, fun i hi => (hs i).2 ⟨h2 i (by omega), h4 i (by omega), h6 i (by omega)⟩⟩
      · cases hx : bit A f with | false => rfl | true => rw [h1 hx]; rfl
      · cases hx : bit U f with | false => rfl | true => rw [h3 hx]; rfl
      · cases hx : bit D f with | false => rfl | true => rw [h5 hx]; rfl
    · rintro ⟨⟨⟨⟨h1, h2⟩, h3⟩, h4⟩, h5⟩
      have hne : ∀ i, i ≠ f → bit A i = false ∧ bit U i = false ∧ bit D i = false := fun i hi => by
        rcases Nat.lt_or_ge i f with h | h
        · exact (hs i).1 (h5 i h)
        · exact (hs i).1 (h4 i (by omega))
      refine ⟨⟨fun hx => ?_, fun i hi => (hne i hi).1⟩, ⟨fun hx => ?_, fun i hi => (hne i hi).2.1⟩, ⟨fun hx => ?_, fun i hi => (hne i hi).2.2⟩⟩
      · rw [hx] at h1; cases hm : (o != 0) with | true => rfl | false => rw [hm] at h1; cases h1
      · rw [hx] at h2; cases hm : m2 o with | true => rfl | false => rw [hm] at h2; cases h2
      · rw [hx] at h3; cases hm : m3 o with | true => rfl | false => rw [hm] at h3; cases h3
  show (bif (((bif (bit A f && (o != 0)) then shl32 1 (f : Int) else 0) == A) && (((bif (bit U f && m2 o) then shl32 1 (f : Int) else 0) == U) && ((bif (bit D f && m3 o) then shl32 1 (f : Int) else 0) == D))) then 0 else o) = _
  rw [key]
  cases more (bit A f) (bit U f) (bit D f) ab be o <;> rfl
structure Ok (n f : Nat) (dir o : Int) (c u d : Int) : Prop where
  n2 : 2 ≤ n
  n32 : n ≤ 32
  f : f < n
  dir : 0 ≤ dir ∧ dir ≤ 2
  o : 0 ≤ o ∧ o ≤ 7
  c : W c
  u : W u
  d : W d
theorem Ok.proper {n f : Nat} {dir o c u d : Int} (h : Ok n f dir o c u d) : F90 ((n : Int), (dir, o), (f : Int)) = true := by
  have := h.n2; have := h.n32; have := h.f; have := h.dir; have := h.o
  unfold F90 F61
  simp only [Bool.and_eq_true, decide_eq_true_eq]
  omega
theorem Ok.guard {n f : Nat} {dir o c u d : Int} (h : Ok n f dir o c u d) : (((((decide ((n : Int) < (2 : Int))) || (decide ((n : Int) > (32 : Int)))) || (decide ((f : Int) < (0 : Int)))) || (decide ((f : Int) ≥ (n : Int)))) || (!(F70 (dir, o)))) = false := by
  have := h.n2; have := h.n32; have := h.f; have := h.dir; have := h.o
  unfold F70
  simp only [Bool.or_eq_false_iff, Bool.not_eq_false', Bool.and_eq_true, decide_eq_true_eq, decide_eq_false_iff_not]
  omega
theorem cA_idem (n : Nat) (hn : n ≤ 32) (c : Int) (hc : W c) : cA n (cA n c) = cA n c := by
  refine W.ext (W_and _ _) (W_and _ _) fun i hi => ?_
  rw [bit_and (W_and _ _).1 (W_allm _).1 i hi, bit_and hc.1 (W_allm _).1 i hi, Bool.and_assoc, Bool.and_self]
theorem and_idem (x y : Int) (hx : W x) (hy : W y) : and32 (and32 x y) y = and32 x y := by
  refine W.ext (W_and _ _) (W_and _ _) fun i hi => ?_
  rw [bit_and (W_and _ _).1 hy.1 i hi, bit_and hx.1 hy.1 i hi, Bool.and_assoc, Bool.and_self]
structure Sc (n f : Nat) (o c u d ab be : Int) : Prop where
  ab : AboveS (cS (cA n c) (cU n u) (cD n d)) f ab
  be : BelowS (cS (cA n c) (cU n u) (cD n d)) f be
abbrev oo (n f : Nat) (o c u d ab be : Int) : Int := opd (bit (cA n c) f) (bit (cU n u) f) (bit (cD n d) f) ab be o
abbrev rc (n f : Nat) (o c u d ab be : Int) : Bool := bit (cA n c) f && (!(bit (cA n c) f && (oo n f o c u d ab be != 0)))
abbrev ru (n f : Nat) (o c u d ab be : Int) : Bool := bit (cU n u) f && (!(bit (cU n u) f && m2 (oo n f o c u d ab be)))
abbrev rd (n f : Nat) (o c u d ab be : Int) : Bool := bit (cD n d) f && (!(bit (cD n d) f && m3 (oo n f o c u d ab be)))
theorem scene {n f : Nat} {dir o c u d : Int} (h : Ok n f dir o c u d) : ∃ ab be, Sc n f o c u d ab be ∧ F101 (F100 ((n : Int), (dir, o), (f : Int), c, u, d)) =
    ((rc n f o c u d ab be, ru n f o c u d ab be, rd n f o c u d ab be, ab, be, oo n f o c u d ab be), bit (cA n c) f && (oo n f o c u d ab be != 0), bit (cU n u) f && m2 (oo n f o c u d ab be), bit (cD n d) f && m3 (oo n f o c u d ab be), 0, 0, 0) := by
  obtain ⟨ab, be, h1, h2, h3⟩ := look_val n f h.n32 h.f (dir, o) c u d h.c
  refine ⟨ab, be, ⟨h1, h2⟩, ?_⟩
  rw [h3]
  obtain ⟨o', rfl⟩ := Int.eq_ofNat_of_zero_le h.o.1
  exact without_val _ _ _ ab be o' (by have := h.o; omega)
theorem uwrap (f : Nat) (hf : f < 32) : IntKind.u64.wrap (f : Int) = (f : Int) := wrap_u64_of (by omega) (by omega)
theorem rhas_up {U D : Int} (hU : W U) (f : Nat) (hf : f < 32) : F96 ((U, D), (f : Int), 1) = bit U f := by
  unfold F96
  have hb : (decide ((f : Int) < 0) || decide ((f : Int) > 31)) = false := by simp; omega
  simp only
  rw [hb, cond_false, uwrap f hf, show ((1 : Int) == 1) = true from rfl, show ((1 : Int) == 2) = false from rfl, Bool.true_and, Bool.false_and, Bool.or_false]
  exact ask_bit hU f
theorem rhas_down {U D : Int} (hD : W D) (f : Nat) (hf : f < 32) : F96 ((U, D), (f : Int), 2) = bit D f := by
  unfold F96
  have hb : (decide ((f : Int) < 0) || decide ((f : Int) > 31)) = false := by simp; omega
  simp only
  rw [hb, cond_false, uwrap f hf, show ((2 : Int) == 1) = false from rfl, show ((2 : Int) == 2) = true from rfl, Bool.true_and, Bool.false_and, Bool.false_or]
  exact ask_bit hD f
def near (ab be : Int) : Int := bif (decide (0 < ab) && ((!decide (0 < be)) || decide (be ≥ ab))) then 1 else bif decide (0 < be) then 2 else 0
theorem rspent {n f : Nat} {dir o c u d ab be : Int} (h : Ok n f dir o c u d) (s : Sc n f o c u d ab be) : F94 ((n : Int), (dir, o), (f : Int), cA n c, cU n u, cD n d) =
    (bif (bit (cA n c) f && (oo n f o c u d ab be != 0)) then shl32 1 (f : Int) else 0, bif (bit (cU n u) f && m2 (oo n f o c u d ab be)) then shl32 1 (f : Int) else 0, bif (bit (cD n d) f && m3 (oo n f o c u d ab be)) then shl32 1 (f : Int) else 0) := by
  have hn := h.n2; have hf := h.f; have h32 := h.n32
  have hp : F72 ((n : Int), cA n c, cU n u, cD n d) = (cA n c, cU n u, cD n d) := by
    rw [proper_val n (by omega) h32 _ _ _ (W_and _ _) (W_and _ _)]
    exact Prod.ext (and_idem _ _ h.c (W_allm _)) (Prod.ext (and_idem _ _ h.u (W_shr (W_allm _) 1 (by omega))) (and_idem _ _ h.d (W_nand _ _)))
  unfold F94
  simp only
  rw [h.guard, cond_false, hp]
  try simp only
  rw [counted_val (W_and _ _) (W_and _ _) (W_and _ _) f (by omega) dir o ab be s.ab s.be, marked_val (W_and _ _) (W_and _ _) (W_and _ _) f (by omega)]
theorem rspent' {n f : Nat} {dir o c u d ab be : Int} (h : Ok n f dir o c u d) (s : Sc n f o c u d ab be) : F94 ((n : Int), (dir, o), (f : Int), c, u, d) =
    (bif (bit (cA n c) f && (oo n f o c u d ab be != 0)) then shl32 1 (f : Int) else 0, bif (bit (cU n u) f && m2 (oo n f o c u d ab be)) then shl32 1 (f : Int) else 0, bif (bit (cD n d) f && m3 (oo n f o c u d ab be)) then shl32 1 (f : Int) else 0) := by
  have hn := h.n2; have hf := h.f; have h32 := h.n32
  unfold F94
  simp only
  rw [h.guard, cond_false, proper_val n (by omega) h32 _ _ _ h.u h.d]
  try simp only
  rw [counted_val (W_and _ _) (W_and _ _) (W_and _ _) f (by omega) dir o ab be s.ab s.be, marked_val (W_and _ _) (W_and _ _) (W_and _ _) f (by omega)]
theorem live_bit {A : Int} (hA : W A) (f : Nat) (hf : f < 32) (m : Bool) : bit (nand32 A (bif (bit A f && m) then shl32 1 (f : Int) else 0)) f = (bit A f && (!(bit A f && m))) := by
  have hW : W (bif (bit A f && m) then shl32 1 (f : Int) else 0) := by cases (bit A f && m); exact W.zero; exact W_shl _ _
  rw [bit_nand hA.1 hW.1 f hf]
  cases (bit A f && m) with
  | true => rw [cond_true, bit_one f f hf]; simp
  | false => rw [cond_false, bit_zero]
theorem rlook {n f : Nat} {dir o c u d ab be : Int} (h : Ok n f dir o c u d) (s : Sc n f o c u d ab be) : F71 ((n : Int), (dir, o), (f : Int), cA n c, cU n u, cD n d) =
    (ru n f o c u d ab be, rd n f o c u d ab be, rc n f o c u d ab be, decide (0 < ab), decide (0 < be), near ab be) := by
  have hn := h.n2; have hf := h.f; have h32 := h.n32
  unfold F71
  simp only
  rw [rspent h s, above_val f (by omega) s.ab, below_val f (by omega) s.be, uwrap f (by omega)]
  simp only
  have e1 : F95 ((cU n u, cD n d), (bif (bit (cU n u) f && m2 (oo n f o c u d ab be)) then shl32 1 (f : Int) else 0), (bif (bit (cD n d) f && m3 (oo n f o c u d ab be)) then shl32 1 (f : Int) else 0)) =
      (nand32 (cU n u) (bif (bit (cU n u) f && m2 (oo n f o c u d ab be)) then shl32 1 (f : Int) else 0), nand32 (cD n d) (bif (bit (cD n d) f && m3 (oo n f o c u d ab be)) then shl32 1 (f : Int) else 0)) := rfl
  rw [e1, rhas_up (W_nand _ _) f (by omega), rhas_down (W_nand _ _) f (by omega), live_bit (W_and _ _) f (by omega), live_bit (W_and _ _) f (by omega)]
  have e2 := ask_bit (W_nand (cA n c) (bif (bit (cA n c) f && (oo n f o c u d ab be != 0)) then shl32 1 (f : Int) else 0)) f
  rw [live_bit (W_and _ _) f (by omega)] at e2
  rw [e2]
  unfold near
  cases (decide (0 < ab) && ((!decide (0 < be)) || decide (be ≥ ab))) with
  | true => rfl
  | false =>
    rw [cond_false, cond_false]
    cases decide (0 < be) <;> rfl
theorem rising_ref (c u d : Bool) (ab be o : Int) : F103 (c, u, d, ab, be, o) =
    bif (F73 (1, 2, c, u, d, decide (0 < ab), decide (0 < be))).2 then (F73 (1, 2, c, u, d, decide (0 < ab), decide (0 < be))).1 else F74 (2, d, decide (0 < be)) := by
  unfold F103 F104 F73 F74 F111
  simp only [gt_iff_lt]
  generalize decide (0 < ab) = a
  generalize decide (0 < be) = b
  cases c <;> cases u <;> cases d <;> cases a <;> cases b <;> rfl
theorem falling_ref (c u d : Bool) (ab be o : Int) : F104 (c, u, d, ab, be, o) =
    bif (F73 (2, 1, c, d, u, decide (0 < be), decide (0 < ab))).2 then (F73 (2, 1, c, d, u, decide (0 < be), decide (0 < ab))).1 else F74 (1, u, decide (0 < ab)) := by
  unfold F104 F73 F74 F111
  simp only [gt_iff_lt]
  generalize decide (0 < ab) = a
  generalize decide (0 < be) = b
  cases c <;> cases u <;> cases d <;> cases a <;> cases b <;> rfl
theorem near_eq (c u d : Bool) (ab be o : Int) (ha : 0 ≤ ab) (hb : 0 ≤ be) : F109 (c, u, d, ab, be, o) = near ab be := by
  unfold F109 near
  simp only [gt_iff_lt]
  have : (be == 0) = !decide (0 < be) := by
    rw [Bool.eq_iff_iff]; simp; omega
  rw [this]
theorem near_cases (ab be : Int) : near ab be = 0 ∨ near ab be = 1 ∨ near ab be = 2 := by
  unfold near
  cases (decide (0 < ab) && ((!decide (0 < be)) || decide (be ≥ ab))) with
  | true => exact .inr (.inl rfl)
  | false =>
    rw [cond_false]
    cases decide (0 < be) with
    | true => exact .inr (.inr rfl)
    | false => exact .inl rfl
theorem resting_ref (c u d : Bool) (ab be o : Int) (ha : 0 ≤ ab) (hb : 0 ≤ be) : F102 (c, u, d, ab, be, o) =
    bif u then F75 1 else bif d then F75 2 else bif c then F75 (near ab be) else F76 (near ab be) := by
  unfold F102
  rw [near_eq c u d ab be o ha hb]
  unfold F76
  rcases near_cases ab be with h | h | h <;> rw [h] <;> cases c <;> cases u <;> cases d <;> rfl
section
variable {n f : Nat} {dir o c u d : Int}
theorem choose_val (h : Ok n f dir o c u d) : ∃ ab be, Sc n f o c u d ab be ∧ F91 ((n : Int), (dir, o), (f : Int), c, u, d) = (F53 ((n : Int), (dir, o), (f : Int), c, u, d), oo n f o c u d ab be) := by
  obtain ⟨ab, be, s, hv⟩ := scene h
  refine ⟨ab, be, s, ?_⟩
  unfold F91 F53 K53_1 K53_2
  rw [hv]
  simp only
  rw [h.guard, cond_false, proper_val n (by have := h.n2; omega) h.n32 _ _ _ h.u h.d, rlook h s]
  simp only
  have hd : dir = 0 ∨ dir = 1 ∨ dir = 2 := by have := h.dir; omega
  refine Prod.ext ?_ rfl
  rcases hd with rfl | rfl | rfl
  · rw [rules0, resting_ref _ _ _ _ _ _ s.ab.nn s.be.nn]; rfl
  · rw [rules1, rising_ref]; rfl
  · rw [rules2, falling_ref]; rfl
theorem Choose_eq (h : Ok n f dir o c u d) : F66 ((n : Int), (dir, o), (f : Int), c, u, d) = F53 ((n : Int), (dir, o), (f : Int), c, u, d) := by
  obtain ⟨ab, be, s, hv⟩ := choose_val h
  unfold F66
  simp only
  rw [h.proper, hv]; rfl
theorem Next_eq (h : Ok n f dir o c u d) : F67 ((n : Int), (dir, o), (f : Int), c, u, d) = F54 ((n : Int), (dir, o), (f : Int), c, u, d) := by
  obtain ⟨ab, be, s, hv⟩ := choose_val h
  have hb := choose_bd ((n : Int), (dir, o), (f : Int), c, u, d) h.dir.1 h.dir.2
  rw [hv] at hb
  simp only at hb
  unfold F67 F54
  simp only
  rw [h.proper, hv, h.guard, cond_false, proper_val n (by have := h.n2; omega) h.n32 _ _ _ h.u h.d]
  simp only
  rw [counted_val (W_and _ _) (W_and _ _) (W_and _ _) f (by have := h.f; have := h.n32; omega) dir o ab be s.ab s.be]
  rw [wrap_u64_of (x := (F53 ((n : Int), (dir, o), (f : Int), c, u, d)).2.2) (by omega) (by omega)]
  generalize F53 ((n : Int), (dir, o), (f : Int), c, u, d) = C
  rw [Bool.not_true, cond_false]
  cases h3 : (C.1 == 3) with
  | true => rw [show (C.1 != 3) = false from by rw [bne, h3]; rfl]; rfl
  | false => rw [show (C.1 != 3) = true from by rw [bne, h3]; rfl]; rfl
end
theorem proper_guard (n : Int) (w : Int × Int) (f : Int) : (((((decide (n < (2 : Int))) || (decide (n > (32 : Int)))) || (decide (f < (0 : Int)))) || (decide (f ≥ n))) || (!(F70 w))) = !F90 (n, w, f) := by
  rw [Bool.eq_iff_iff]
  unfold F70 F90 F61
  simp only [Bool.or_eq_true, Bool.not_eq_true', Bool.and_eq_false_iff, decide_eq_true_eq, decide_eq_false_iff_not]
  omega
theorem both_all (n dir o f c u d : Int) (hc : W c) (hu : W u) (hd : W d) : F66 (n, (dir, o), f, c, u, d) = F53 (n, (dir, o), f, c, u, d) ∧ F67 (n, (dir, o), f, c, u, d) = F54 (n, (dir, o), f, c, u, d) := by
    cases hp : F90 (n, (dir, o), f) with
    | false =>
      have hg := proper_guard n (dir, o) f
      rw [hp] at hg
      refine ⟨?_, ?_⟩
      · unfold F66 F53
        simp only
        rw [hp, hg]; rfl
      · unfold F67 F54
        simp only
        rw [hp, hg]; rfl
    | true =>
      unfold F90 F61 at hp
      simp only [Bool.and_eq_true, decide_eq_true_eq] at hp
      obtain ⟨n', rfl⟩ := Int.eq_ofNat_of_zero_le (show 0 ≤ n by omega)
      obtain ⟨f', rfl⟩ := Int.eq_ofNat_of_zero_le (show 0 ≤ f by omega)
      have hok : Ok n' f' dir o c u d := ⟨by omega, by omega, by omega, by omega, by omega, hc, hu, hd⟩
      exact ⟨Choose_eq hok, Next_eq hok⟩
theorem W_of {x : Int} (h : (Lit.int .u32 x).wf = true) : W x := by
  simp only [Lit.wf, Bool.and_eq_true, decide_eq_true_eq] at h
  have h1 : (0 : Int) ≤ x := h.1
  have h2 : x ≤ (4294967295 : Int) := h.2
  unfold W; omega
def chR (dir : Int) (c u d a b l : Bool) : Int × Int × Int :=
  bif dir == 1 then (bif (F73 (1, 2, c, u, d, a, b)).2 then (F73 (1, 2, c, u, d, a, b)).1 else F74 (2, d, b))
  else bif dir == 2 then (bif (F73 (2, 1, c, d, u, b, a)).2 then (F73 (2, 1, c, d, u, b, a)).1 else F74 (1, u, a))
  else bif u then F75 1 else bif d then F75 2 else bif c then F75 (bif a && (!b || l) then 1 else bif b then 2 else 0) else F76 (bif a && (!b || l) then 1 else bif b then 2 else 0)
def chO (o : Int) (A U D a b : Bool) : Int := bif ((((A && (!(A && (o != 0)))) || (U && (!(U && m2 o)))) || (D && (!(D && m3 o)))) || a) || b then o else 0
def ch (dir o : Int) (A U D a b l : Bool) : Int × Int × Int :=
  chR dir (A && !(A && (chO o A U D a b != 0))) (U && !(U && m2 (chO o A U D a b))) (D && !(D && m3 (chO o A U D a b))) a b l
def chN (dir o : Int) (A U D a b l : Bool) : Int × Int :=
  bif (ch dir o A U D a b l).1 == 3 then ((ch dir o A U D a b l).2.1, (IntKind.i64.wrap ((BitVec.ofInt IntKind.i64.bits (chO o A U D a b) ||| BitVec.ofInt IntKind.i64.bits (IntKind.i64.wrap ((1 : Int) * (2 ^ (min (IntKind.u64.wrap (ch dir o A U D a b l).2.2).toNat IntKind.i64.bits))))).toNat : Int))) else ((ch dir o A U D a b l).2.1, 0)
section
variable {n f : Nat} {dir o c u d : Int}
theorem choose_ch (h : Ok n f dir o c u d) : ∃ ab be, Sc n f o c u d ab be ∧ F91 ((n : Int), (dir, o), (f : Int), c, u, d) =
    (ch dir o (bit (cA n c) f) (bit (cU n u) f) (bit (cD n d) f) (decide (0 < ab)) (decide (0 < be)) (decide (be ≥ ab)), chO o (bit (cA n c) f) (bit (cU n u) f) (bit (cD n d) f) (decide (0 < ab)) (decide (0 < be))) := by
  obtain ⟨ab, be, s, hv⟩ := scene h
  refine ⟨ab, be, s, ?_⟩
  unfold F91
  rw [hv]
  simp only
  have hd : dir = 0 ∨ dir = 1 ∨ dir = 2 := by have := h.dir; omega
  refine Prod.ext ?_ rfl
  rcases hd with rfl | rfl | rfl
  · rw [rules0, resting_ref _ _ _ _ _ _ s.ab.nn s.be.nn]; rfl
  · rw [rules1, rising_ref]; rfl
  · rw [rules2, falling_ref]; rfl
theorem Choose_ch (h : Ok n f dir o c u d) : ∃ ab be, Sc n f o c u d ab be ∧
    F66 ((n : Int), (dir, o), (f : Int), c, u, d) = ch dir o (bit (cA n c) f) (bit (cU n u) f) (bit (cD n d) f) (decide (0 < ab)) (decide (0 < be)) (decide (be ≥ ab)) ∧
    F67 ((n : Int), (dir, o), (f : Int), c, u, d) = chN dir o (bit (cA n c) f) (bit (cU n u) f) (bit (cD n d) f) (decide (0 < ab)) (decide (0 < be)) (decide (be ≥ ab)) := by
  obtain ⟨ab, be, s, hv⟩ := choose_ch h
  have hb := choose_bd ((n : Int), (dir, o), (f : Int), c, u, d) h.dir.1 h.dir.2
  refine ⟨ab, be, s, ?_, ?_⟩
  · unfold F66
    simp only
    rw [h.proper, hv]; rfl
  · unfold F67 chN
    simp only
    rw [h.proper, hv]
    rw [hv] at hb
    simp only at hb ⊢
    generalize hC : ch dir o (bit (cA n c) f) (bit (cU n u) f) (bit (cD n d) f) (decide (0 < ab)) (decide (0 < be)) (decide (be ≥ ab)) = C at hb ⊢
    rw [wrap_u64_of (x := C.2.2) (by omega) (by omega), Bool.not_true, cond_false]
    cases h3 : (C.1 == 3) with
    | true => rw [show (C.1 != 3) = false from by rw [bne, h3]; rfl]; rfl
    | false => rw [show (C.1 != 3) = true from by rw [bne, h3]; rfl]; rfl
theorem Sc.up_iff {ab be : Int} (s : Sc n f o c u d ab be) : (decide (0 < ab) = true) ↔ ∃ i, f < i ∧ bit (cS (cA n c) (cU n u) (cD n d)) i = true := by
  rw [decide_eq_true_eq]
  rcases s.ab with ⟨h1, h2⟩ | ⟨k, h1, h2, _, h4⟩
  · exact ⟨fun h => by omega, fun ⟨i, hi, hb⟩ => by rw [h2 i hi] at hb; cases hb⟩
  · exact ⟨fun _ => ⟨k, h1, h2⟩, fun _ => by omega⟩
theorem Sc.down_iff {ab be : Int} (s : Sc n f o c u d ab be) : (decide (0 < be) = true) ↔ ∃ i, i < f ∧ bit (cS (cA n c) (cU n u) (cD n d)) i = true := by
  rw [decide_eq_true_eq]
  rcases s.be with ⟨h1, h2⟩ | ⟨k, h1, h2, _, h4⟩
  · exact ⟨fun h => by omega, fun ⟨i, hi, hb⟩ => by rw [h2 i hi] at hb; cases hb⟩
  · exact ⟨fun _ => ⟨k, h1, h2⟩, fun _ => by omega⟩
theorem bit_cA (hn : n ≤ 32) (hc : W c) (i : Nat) : bit (cA n c) i = (bit c i && decide (i < n)) := by
  rcases Nat.lt_or_ge i 32 with hi | hi
  · rw [bit_and hc.1 (W_allm _).1 i hi, bit_allm n i hn]
  · rw [bit_hi (W_and _ _) hi, bit_hi hc hi, Bool.false_and]
theorem bit_cU (hn : n ≤ 32) (hu : W u) (i : Nat) : bit (cU n u) i = (bit u i && decide (i + 1 < n)) := by
  rcases Nat.lt_or_ge i 32 with hi | hi
  · have e : bit (shr32 (allm (n : Int)) 1) i = bit (allm (n : Int)) (1 + i) := bit_shr (W_allm _) 1 i
    rw [bit_and hu.1 (W_shr (W_allm _) _ (by omega)).1 i hi, e, bit_allm n _ hn, Nat.add_comm 1 i]
  · rw [bit_hi (W_and _ _) hi, bit_hi hu hi, Bool.false_and]
theorem bit_cD (hn : n ≤ 32) (hd : W d) (i : Nat) : bit (cD n d) i = (bit d i && decide (0 < i ∧ i < n)) := by
  rcases Nat.lt_or_ge i 32 with hi | hi
  · rw [bit_and hd.1 (W_nand _ _).1 i hi, bit_nand (W_allm _).1 (by omega) i hi, bit_allm n _ hn, bit1 i hi]
    congr 1
    rw [Bool.eq_iff_iff]; simp; omega
  · rw [bit_hi (W_and _ _) hi, bit_hi hd hi, Bool.false_and]
end
set_option synthInstance.maxHeartbeats 400000
set_option synthInstance.maxSize 4096
theorem S1 : ∀ dir, dir < 3 → ∀ o, o < 8 → ∀ A U D a b l : Bool, (a || b) = true →
    (ch ((dir : Nat) : Int) ((o : Nat) : Int) A U D a b l = (1, 1, 0) ∧ a = true ∧ ¬ (dir = 2 ∧ b = true) ∧ chN dir o A U D a b l = (1, 0)) ∨
    (ch dir o A U D a b l = (2, 2, 0) ∧ b = true ∧ ¬ (dir = 1 ∧ a = true) ∧ chN dir o A U D a b l = (2, 0)) ∨
    (ch dir o A U D a b l = (3, 1, 1) ∧ o % 4 < 2 ∧ ¬ (dir = 2 ∧ b = true) ∧ chN dir o A U D a b l = (1, (o : Int) + 2)) ∨
    (ch dir o A U D a b l = (3, 2, 2) ∧ o < 4 ∧ ¬ (dir = 1 ∧ a = true) ∧ chN dir o A U D a b l = (2, (o : Int) + 4)) := by decide +kernel
theorem S2u : ∀ dir, dir < 3 → ∀ o, o < 8 → ∀ A D a b l : Bool,
    ch ((dir : Nat) : Int) ((o : Nat) : Int) A true D a b l = (3, 1, 1) ∨
    (¬ (o % 4 < 2 ∧ dir ≠ 2) ∧ ch dir o A true D a b l = (3, 2, 2) ∧ o < 4 ∧ chN dir o A true D a b l = (2, (o : Int) + 4)) ∨
    (¬ (o % 4 < 2) ∧ ¬ (o < 4) ∧ ch dir o A true D a b l = (3, 2, 2) ∧ chN dir o A true D a b l = (2, 4)) ∨
    (¬ (o % 4 < 2 ∧ dir ≠ 2) ∧ ch dir o A true D a b l = (2, 2, 0) ∧ b = true ∧ chN dir o A true D a b l = (2, 0)) ∨
    (¬ (o % 4 < 2) ∧ ch dir o A true D a b l = (1, 1, 0) ∧ a = true ∧ chN dir o A true D a b l = (1, 0)) := by decide +kernel
theorem S2d : ∀ dir, dir < 3 → ∀ o, o < 8 → ∀ A U a b l : Bool,
    ch ((dir : Nat) : Int) ((o : Nat) : Int) A U true a b l = (3, 2, 2) ∨
    (¬ (o < 4 ∧ dir = 2) ∧ ch dir o A U true a b l = (3, 1, 1) ∧ o % 4 < 2 ∧ chN dir o A U true a b l = (1, (o : Int) + 2)) ∨
    (¬ (o < 4) ∧ ¬ (o % 4 < 2) ∧ ch dir o A U true a b l = (3, 1, 1) ∧ chN dir o A U true a b l = (1, 2)) ∨
    (¬ (o < 4 ∧ dir ≠ 1) ∧ ch dir o A U true a b l = (1, 1, 0) ∧ a = true ∧ chN dir o A U true a b l = (1, 0)) ∨
    (¬ (o < 4) ∧ ch dir o A U true a b l = (2, 2, 0) ∧ b = true ∧ chN dir o A U true a b l = (2, 0)) := by decide +kernel
theorem S3 : ∀ dir, dir < 3 → ∀ o, o < 8 → ∀ U D a b l : Bool,
    (ch ((dir : Nat) : Int) ((o : Nat) : Int) true U D a b l).1 = 3 ∨
    (o ≠ 0 ∧ ch dir o true U D a b l = (2, 2, 0) ∧ b = true ∧ chN dir o true U D a b l = (2, 0)) ∨
    (o ≠ 0 ∧ ch dir o true U D a b l = (1, 1, 0) ∧ a = true ∧ chN dir o true U D a b l = (1, 0)) := by decide +kernel
def okM (t e a b A U D : Bool) (o : Nat) (c : Int × Int × Int) : Bool :=
  (c.1 == 1 && (a && c.2.1 == 1 && c.2.2 == 0)) || (c.1 == 2 && (b && c.2.1 == 2 && c.2.2 == 0)) ||
  (c.1 == 3 && ((A || U || D) && c.2.1 == c.2.2 && !(c.2.2 == 1 && t) && !(c.2.2 == 2 && e) && !((a || b) && o.testBit c.2.2.toNat) && (0 ≤ c.2.2 && c.2.2 ≤ 2))) ||
  (c.1 == 0 && (!(A || U || D) && !a && !b && c == (0, 0, 0)))
theorem S4 : ∀ dir, dir < 3 → ∀ o, o < 8 → ∀ t e A U D a b l : Bool, (t && (U || a)) = false → (e && (D || b)) = false → okM t e a b A U D o (ch ((dir : Nat) : Int) ((o : Nat) : Int) A U D a b l) = true := by decide +kernel
def mirD (d : Int) : Int := bif d == 1 then 2 else bif d == 2 then 1 else d
def mirO (o : Nat) : Nat := o % 2 + (o / 2 % 2) * 4 + (o / 4 % 2) * 2
theorem S5 : ∀ o, o < 8 → ∀ A U D a b l l' : Bool,
    ch 2 ((mirO o : Nat) : Int) A D U b a l' = (mirD (ch 1 ((o : Nat) : Int) A U D a b l).1, mirD (ch 1 o A U D a b l).2.1, mirD (ch 1 o A U D a b l).2.2) ∧
    ch 1 (mirO o) A D U b a l' = (mirD (ch 2 o A U D a b l).1, mirD (ch 2 o A U D a b l).2.1, mirD (ch 2 o A U D a b l).2.2) := by decide +kernel
theorem S6 : ∀ dir, dir < 3 → ∀ o, o < 8 → ∀ A U D a b l : Bool,
    0 ≤ (ch ((dir : Nat) : Int) ((o : Nat) : Int) A U D a b l).1 ∧ (ch ((dir : Nat) : Int) ((o : Nat) : Int) A U D a b l).1 ≤ 3 ∧ 0 ≤ (ch ((dir : Nat) : Int) ((o : Nat) : Int) A U D a b l).2.1 ∧ (ch ((dir : Nat) : Int) ((o : Nat) : Int) A U D a b l).2.1 ≤ 2 ∧ 0 ≤ (ch ((dir : Nat) : Int) ((o : Nat) : Int) A U D a b l).2.2 ∧ (ch ((dir : Nat) : Int) ((o : Nat) : Int) A U D a b l).2.2 ≤ 2 := by decide +kernel
end Go.Proofs.YtngbcgnihbjfnaaGreatDoor.Sp
end

section
/- What a decision does to the way that is left to a call: without the relay (own work). -/
namespace Go.Proofs.YtngbcgnihbjfnaaGreatDoor.Sp
open Go Sy
set_option linter.unusedVariables false
set_option linter.unusedSimpArgs false
set_option maxRecDepth 10000
theorem cS_lt {n : Nat} {c u d : Int} (hn : n ≤ 32) (hc : W c) (hu : W u) (hd : W d) {i : Nat} (h : bit (cS (cA n c) (cU n u) (cD n d)) i = true) : i < n := by
  have hi : i < 32 := bit_lt (W_cS _ _ _) h
  rw [bit_cS (W_and _ _) (W_and _ _) (W_and _ _) i hi, bit_cA hn hc, bit_cU hn hu, bit_cD hn hd] at h
  simp only [Bool.or_eq_true, Bool.and_eq_true, decide_eq_true_eq] at h
  omega
theorem up_room {n f : Nat} {dir o c u d ab be : Int} (h : Ok n f dir o c u d) (s : Sc n f o c u d ab be) (ha : decide (0 < ab) = true) : f + 1 < n := by
  obtain ⟨i, hi, hb⟩ := s.up_iff.1 ha
  have := cS_lt h.n32 h.c h.u h.d hb
  omega
theorem down_room {n f : Nat} {o c u d ab be : Int} (s : Sc n f o c u d ab be) (ha : decide (0 < be) = true) : 0 < f := by
  obtain ⟨i, hi, hb⟩ := s.down_iff.1 ha
  omega
set_option synthInstance.maxHeartbeats 400000
set_option synthInstance.maxSize 4096
theorem T1 : ∀ dir, dir < 3 → ∀ o, o < 8 → ∀ A U D a b l : Bool,
    ((ch ((dir : Nat) : Int) ((o : Nat) : Int) A U D a b l).1 = 3 ∧ (chN dir o A U D a b l).1 = (ch dir o A U D a b l).2.2 ∧ (0 ≤ (chN dir o A U D a b l).1 ∧ (chN dir o A U D a b l).1 ≤ 2) ∧ 0 ≤ (chN dir o A U D a b l).2 ∧ (chN dir o A U D a b l).2 ≤ 7) ∨
    ((ch dir o A U D a b l).1 = 1 ∧ a = true ∧ chN dir o A U D a b l = (1, 0)) ∨
    ((ch dir o A U D a b l).1 = 2 ∧ b = true ∧ chN dir o A U D a b l = (2, 0)) ∨
    ((ch dir o A U D a b l).1 = 0 ∧ (A || U || D || a || b) = false ∧ chN dir o A U D a b l = (0, 0)) := by decide +kernel
def opn (o : Nat) : Int := 2 - (if o % 4 < 2 then 0 else 1) - (if o < 4 then 0 else 1)
theorem opn_bd (o : Nat) : 0 ≤ opn o ∧ opn o ≤ 2 := by unfold opn; split <;> split <;> omega
def phU (n g f dir o : Nat) : Int := if dir = 0 ∨ (f = g ∧ ¬ o % 4 < 2) then 3 * n else if dir = 1 then (if f ≤ g then (g : Int) - f else 2 * ((n : Int) - 1) - f + g) else (f : Int) + g
def phD (n g f dir o : Nat) : Int := if dir = 0 ∨ (f = g ∧ ¬ o < 4) then 3 * n else if dir = 1 then 2 * ((n : Int) - 1) - f - g else (if g ≤ f then (f : Int) - g else (f : Int) + 2 * ((n : Int) - 1) - g)
def phC (n g f dir o : Nat) : Int := if dir = 0 ∨ (f = g ∧ o ≠ 0) then 3 * n else if dir = 1 then (if f ≤ g then (g : Int) - f else 2 * ((n : Int) - 1) - f - g) else (if g ≤ f then (f : Int) - g else (f : Int) + g)
def Dec (n : Nat) (ph : Nat → Nat → Nat → Int) (hit : Nat → Nat → Prop) (f dir o : Nat) (C : Int × Int × Int) (N : Int × Int) : Prop :=
  (C.1 = 3 ∧ (∃ d' o' : Nat, N = ((d' : Int), (o' : Int)) ∧ d' ≤ 2 ∧ o' < 8 ∧ hit f d') ∧ (1 ≤ ph f dir o ∨ 1 ≤ opn o)) ∨
  (C.1 = 3 ∧ ∃ d' o' : Nat, N = ((d' : Int), (o' : Int)) ∧ d' ≤ 2 ∧ o' < 8 ∧ (ph f d' o' < ph f dir o ∨ (ph f d' o' ≤ ph f dir o ∧ opn o' < opn o))) ∨
  (C.1 = 1 ∧ N = (1, 0) ∧ f + 1 < n ∧ ph (f + 1) 1 0 < ph f dir o) ∨
  (C.1 = 2 ∧ N = (2, 0) ∧ 0 < f ∧ ph (f - 1) 2 0 < ph f dir o)
theorem lo : ∀ o : Nat, o < 8 → (o % 4 < 2 → opn (o + 2) < opn o ∧ o + 2 < 8) ∧ (o < 4 → opn (o + 4) < opn o ∧ o + 4 < 8) := by decide
theorem dec_up {n g f dir o : Nat} (hn : 2 ≤ n) (hf : f < n) (hg : g + 1 < n) (hd : dir < 3) (ho : o < 8) (A U D a b l : Bool) (hU : f = g → U = true) (ha : f < g → a = true) (hb : g < f → b = true)
    (ra : a = true → f + 1 < n) (rb : b = true → 0 < f) : Dec n (phU n g) (fun f' d' => f' = g ∧ d' = 1) f dir o (ch dir o A U D a b l) (chN dir o A U D a b l) := by
  have h4 := lo o ho
  unfold Dec
  by_cases hfg : f = g
  · subst hfg
    rw [hU rfl]
    rcases S2u dir hd o ho A D a b l with e | ⟨h1, e, h2, eN⟩ | ⟨h1, h2, e, eN⟩ | ⟨h1, e, h2, eN⟩ | ⟨h1, e, h2, eN⟩
    · left
      have t := T1 dir hd o ho A true D a b l
      rw [e] at t ⊢
      simp only at t
      refine ⟨rfl, ?_, ?_⟩
      · rcases t with ⟨_, t2, t3, t4⟩ | ⟨t1, _⟩ | ⟨t1, _⟩ | ⟨t1, _⟩
        · refine ⟨1, (chN dir o A true D a b l).2.toNat, Prod.ext t2 (by simp only; omega), by omega, by omega, rfl, rfl⟩
        · omega
        · omega
        · omega
      · unfold phU opn
        have := h4
        by_cases ho2 : o % 4 < 2
        · right; simp only [ho2, if_true]; split <;> omega
        · left; simp only [ho2, not_false_eq_true, and_true, or_true, if_true]; omega
    · right; left
      rw [e, eN]
      refine ⟨rfl, 2, o + 4, by simp, by omega, (h4.2 h2).2, Or.inr ⟨?_, (h4.2 h2).1⟩⟩
      unfold phU
      have e4 : (o + 4) % 4 = o % 4 := by omega
      rw [e4]
      split <;> split <;> (try split) <;> omega
    · right; left
      rw [e, eN]
      refine ⟨rfl, 2, 4, rfl, by omega, by omega, Or.inl ?_⟩
      unfold phU
      simp only [h1, not_false_eq_true, and_true, or_true, if_true]
      simp; omega
    · right; right; right
      rw [e, eN]
      have := rb h2
      refine ⟨rfl, rfl, this, ?_⟩
      unfold phU
      split <;> split <;> (try split) <;> omega
    · right; right; left
      rw [e, eN]
      have := ra h2
      refine ⟨rfl, rfl, this, ?_⟩
      unfold phU
      split <;> split <;> (try split) <;> omega
  · have hab : (a || b) = true := by
      rcases Nat.lt_or_ge f g with h | h
      · rw [ha h]; rfl
      · rw [hb (by omega), Bool.or_true]
    rcases S1 dir hd o ho A U D a b l hab with ⟨e, h1, h2, eN⟩ | ⟨e, h1, h2, eN⟩ | ⟨e, h1, h2, eN⟩ | ⟨e, h1, h2, eN⟩
    · right; right; left
      rw [e, eN]
      have := ra h1
      have hb' : ¬ (dir = 2 ∧ g < f) := fun ⟨x, y⟩ => h2 ⟨x, hb y⟩
      refine ⟨rfl, rfl, this, ?_⟩
      unfold phU
      split <;> split <;> (try split) <;> (try split) <;> omega
    · right; right; right
      rw [e, eN]
      have := rb h1
      have hb' : ¬ (dir = 1 ∧ f < g) := fun ⟨x, y⟩ => h2 ⟨x, ha y⟩
      refine ⟨rfl, rfl, this, ?_⟩
      unfold phU
      split <;> split <;> (try split) <;> (try split) <;> omega
    · right; left
      rw [e, eN]
      have hb' : ¬ (dir = 2 ∧ g < f) := fun ⟨x, y⟩ => h2 ⟨x, hb y⟩
      refine ⟨rfl, 1, o + 2, by simp, by omega, (h4.1 h1).2, Or.inr ⟨?_, (h4.1 h1).1⟩⟩
      unfold phU
      split <;> split <;> (try split) <;> (try split) <;> (try split) <;> omega
    · right; left
      rw [e, eN]
      have hb' : ¬ (dir = 1 ∧ f < g) := fun ⟨x, y⟩ => h2 ⟨x, ha y⟩
      refine ⟨rfl, 2, o + 4, by simp, by omega, (h4.2 h1).2, Or.inr ⟨?_, (h4.2 h1).1⟩⟩
      unfold phU
      split <;> split <;> (try split) <;> (try split) <;> (try split) <;> omega
theorem dec_dn {n g f dir o : Nat} (hn : 2 ≤ n) (hf : f < n) (hg : 0 < g ∧ g < n) (hd : dir < 3) (ho : o < 8) (A U D a b l : Bool) (hD : f = g → D = true) (ha : f < g → a = true) (hb : g < f → b = true)
    (ra : a = true → f + 1 < n) (rb : b = true → 0 < f) : Dec n (phD n g) (fun f' d' => f' = g ∧ d' = 2) f dir o (ch dir o A U D a b l) (chN dir o A U D a b l) := by
  have h4 := lo o ho
  unfold Dec
  by_cases hfg : f = g
  · subst hfg
    rw [hD rfl]
    rcases S2d dir hd o ho A U a b l with e | ⟨h1, e, h2, eN⟩ | ⟨h1, h2, e, eN⟩ | ⟨h1, e, h2, eN⟩ | ⟨h1, e, h2, eN⟩
    · left
      have t := T1 dir hd o ho A U true a b l
      rw [e] at t ⊢
      simp only at t
      refine ⟨rfl, ?_, ?_⟩
      · rcases t with ⟨_, t2, t3, t4⟩ | ⟨t1, _⟩ | ⟨t1, _⟩ | ⟨t1, _⟩
        · refine ⟨2, (chN dir o A U true a b l).2.toNat, Prod.ext t2 (by simp only; omega), by omega, by omega, rfl, rfl⟩
        · omega
        · omega
        · omega
      · unfold phD opn
        have := h4
        by_cases ho2 : o < 4
        · right; simp only [ho2, if_true]; split <;> omega
        · left; simp only [ho2, not_false_eq_true, and_true, or_true, if_true]; omega
    · right; left
      rw [e, eN]
      refine ⟨rfl, 1, o + 2, by simp, by omega, (h4.1 h2).2, Or.inr ⟨?_, (h4.1 h2).1⟩⟩
      have e4 : (o + 2 < 4) ↔ (o < 4) := by omega
      unfold phD
      split <;> split <;> (try split) <;> omega
    · right; left
      rw [e, eN]
      refine ⟨rfl, 1, 2, rfl, by omega, by omega, Or.inl ?_⟩
      unfold phD
      simp only [h1, not_false_eq_true, and_true, or_true, if_true]
      simp; omega
    · right; right; left
      rw [e, eN]
      have := ra h2
      refine ⟨rfl, rfl, this, ?_⟩
      unfold phD
      split <;> split <;> (try split) <;> omega
    · right; right; right
      rw [e, eN]
      have := rb h2
      refine ⟨rfl, rfl, this, ?_⟩
      unfold phD
      split <;> split <;> (try split) <;> omega
  · have hab : (a || b) = true := by
      rcases Nat.lt_or_ge f g with h | h
      · rw [ha h]; rfl
      · rw [hb (by omega), Bool.or_true]
    rcases S1 dir hd o ho A U D a b l hab with ⟨e, h1, h2, eN⟩ | ⟨e, h1, h2, eN⟩ | ⟨e, h1, h2, eN⟩ | ⟨e, h1, h2, eN⟩
    · right; right; left
      rw [e, eN]
      have := ra h1
      have hb' : ¬ (dir = 2 ∧ g < f) := fun ⟨x, y⟩ => h2 ⟨x, hb y⟩
      refine ⟨rfl, rfl, this, ?_⟩
      unfold phD
      split <;> split <;> (try split) <;> (try split) <;> omega
    · right; right; right
      rw [e, eN]
      have := rb h1
      have hb' : ¬ (dir = 1 ∧ f < g) := fun ⟨x, y⟩ => h2 ⟨x, ha y⟩
      refine ⟨rfl, rfl, this, ?_⟩
      unfold phD
      split <;> split <;> (try split) <;> (try split) <;> omega
    · right; left
      rw [e, eN]
      have hb' : ¬ (dir = 2 ∧ g < f) := fun ⟨x, y⟩ => h2 ⟨x, hb y⟩
      refine ⟨rfl, 1, o + 2, by simp, by omega, (h4.1 h1).2, Or.inr ⟨?_, (h4.1 h1).1⟩⟩
      unfold phD
      split <;> split <;> (try split) <;> (try split) <;> (try split) <;> omega
    · right; left
      rw [e, eN]
      have hb' : ¬ (dir = 1 ∧ f < g) := fun ⟨x, y⟩ => h2 ⟨x, ha y⟩
      refine ⟨rfl, 2, o + 4, by simp, by omega, (h4.2 h1).2, Or.inr ⟨?_, (h4.2 h1).1⟩⟩
      unfold phD
      split <;> split <;> (try split) <;> (try split) <;> (try split) <;> omega
theorem dec_car {n g f dir o : Nat} (hn : 2 ≤ n) (hf : f < n) (hg : g < n) (hd : dir < 3) (ho : o < 8) (A U D a b l : Bool) (hA : f = g → A = true) (ha : f < g → a = true) (hb : g < f → b = true)
    (ra : a = true → f + 1 < n) (rb : b = true → 0 < f) : Dec n (phC n g) (fun f' _ => f' = g) f dir o (ch dir o A U D a b l) (chN dir o A U D a b l) := by
  have h4 := lo o ho
  unfold Dec
  by_cases hfg : f = g
  · subst hfg
    rw [hA rfl]
    rcases S3 dir hd o ho U D a b l with e | ⟨h1, e, h2, eN⟩ | ⟨h1, e, h2, eN⟩
    · left
      have t := T1 dir hd o ho true U D a b l
      refine ⟨e, ?_, ?_⟩
      · rcases t with ⟨_, t2, t3, t4⟩ | ⟨t1, _⟩ | ⟨t1, _⟩ | ⟨t1, _⟩
        · refine ⟨(chN dir o true U D a b l).1.toNat, (chN dir o true U D a b l).2.toNat, Prod.ext (by simp only; omega) (by simp only; omega), by omega, by omega, rfl⟩
        · omega
        · omega
        · omega
      · unfold phC opn
        by_cases ho2 : o = 0
        · right; subst ho2; decide
        · left; simp only [ho2, ne_eq, not_false_eq_true, and_true, or_true, if_true]; omega
    · right; right; right
      rw [e, eN]
      have := rb h2
      refine ⟨rfl, rfl, this, ?_⟩
      unfold phC
      split <;> split <;> (try split) <;> omega
    · right; right; left
      rw [e, eN]
      have := ra h2
      refine ⟨rfl, rfl, this, ?_⟩
      unfold phC
      split <;> split <;> (try split) <;> omega
  · have hab : (a || b) = true := by
      rcases Nat.lt_or_ge f g with h | h
      · rw [ha h]; rfl
      · rw [hb (by omega), Bool.or_true]
    rcases S1 dir hd o ho A U D a b l hab with ⟨e, h1, h2, eN⟩ | ⟨e, h1, h2, eN⟩ | ⟨e, h1, h2, eN⟩ | ⟨e, h1, h2, eN⟩
    · right; right; left
      rw [e, eN]
      have := ra h1
      have hb' : ¬ (dir = 2 ∧ g < f) := fun ⟨x, y⟩ => h2 ⟨x, hb y⟩
      refine ⟨rfl, rfl, this, ?_⟩
      unfold phC
      split <;> split <;> (try split) <;> (try split) <;> omega
    · right; right; right
      rw [e, eN]
      have := rb h1
      have hb' : ¬ (dir = 1 ∧ f < g) := fun ⟨x, y⟩ => h2 ⟨x, ha y⟩
      refine ⟨rfl, rfl, this, ?_⟩
      unfold phC
      split <;> split <;> (try split) <;> (try split) <;> omega
    · right; left
      rw [e, eN]
      have hb' : ¬ (dir = 2 ∧ g < f) := fun ⟨x, y⟩ => h2 ⟨x, hb y⟩
      refine ⟨rfl, 1, o + 2, by simp, by omega, (h4.1 h1).2, Or.inr ⟨?_, (h4.1 h1).1⟩⟩
      unfold phC
      split <;> split <;> (try split) <;> (try split) <;> (try split) <;> omega
    · right; left
      rw [e, eN]
      have hb' : ¬ (dir = 1 ∧ f < g) := fun ⟨x, y⟩ => h2 ⟨x, ha y⟩
      refine ⟨rfl, 2, o + 4, by simp, by omega, (h4.2 h1).2, Or.inr ⟨?_, (h4.2 h1).1⟩⟩
      unfold phC
      split <;> split <;> (try split) <;> (try split) <;> (try split) <;> omega
theorem q_hit {p q K C : Int} (hp : 0 ≤ p) (hq : 0 ≤ q) (hC : 0 ≤ C) (hK : C ≤ K) (h : 1 ≤ p ∨ 1 ≤ q) : C ≤ p * K + q * C := by
  have a1 : 0 ≤ p * K := Int.mul_nonneg hp (by omega)
  have a2 : 0 ≤ q * C := Int.mul_nonneg hq hC
  rcases h with h | h
  · have := Int.mul_le_mul_of_nonneg_right h (show 0 ≤ K by omega)
    omega
  · have := Int.mul_le_mul_of_nonneg_right h hC
    omega
theorem q_open {p p' q q' K C : Int} (hq : 0 ≤ q) (hq' : q' ≤ 2) (hC : 0 ≤ C) (hK : 3 * C ≤ K) (h : p' < p ∨ (p' ≤ p ∧ q' < q)) : C + (p' * K + q' * C) ≤ p * K + q * C := by
  rcases h with h | ⟨h, h2⟩
  · have a1 := Int.mul_le_mul_of_nonneg_right (show p' + 1 ≤ p by omega) (show 0 ≤ K by omega)
    have a2 : 0 ≤ q * C := Int.mul_nonneg hq hC
    have a3 := Int.mul_le_mul_of_nonneg_right hq' hC
    rw [Int.add_mul] at a1
    omega
  · have a1 := Int.mul_le_mul_of_nonneg_right h (show 0 ≤ K by omega)
    have a2 := Int.mul_le_mul_of_nonneg_right (show q' + 1 ≤ q by omega) hC
    rw [Int.add_mul] at a2
    omega
theorem q_move {p p' q K C S : Int} (hq : 0 ≤ q) (hC : 0 ≤ C) (hS : 0 ≤ S) (hK : 2 * C + S ≤ K) (h : p' < p) : S + (p' * K + 2 * C) ≤ p * K + q * C := by
  have a1 := Int.mul_le_mul_of_nonneg_right (show p' + 1 ≤ p by omega) (show 0 ≤ K by omega)
  have a2 : 0 ≤ q * C := Int.mul_nonneg hq hC
  rw [Int.add_mul] at a1
  omega
end Go.Proofs.YtngbcgnihbjfnaaGreatDoor.Sp
end

section
/- The control of a modernised car: the program's tick is the plain one (own work). -/
namespace Go.Proofs.YtngbcgnihbjfnaaGreatDoor.Sp
open Go Sy
set_option linter.unusedVariables false
set_option linter.unusedSimpArgs false
set_option maxRecDepth 10000
theorem z5_iff (s : DoorT) : ((s.1 == (0 : Int)) && ((s.2.1 == (0 : Int)) && ((s.2.2.1 == (0 : Int)) && ((s.2.2.2.1 == false) && (s.2.2.2.2 == (0 : Int)))))) = decide (s = zd) := by
  obtain ⟨a, b, c, d, e⟩ := s
  rw [Bool.eq_iff_iff]
  simp only [Bool.and_eq_true, beq_iff_eq, decide_eq_true_eq, zd, Prod.mk.injEq]
theorem z3_iff (s : MotT) : ((s.1 == (0 : Int)) && ((s.2.1 == (0 : Int)) && (s.2.2 == (0 : Int)))) = decide (s = zm) := by
  obtain ⟨a, b, c⟩ := s
  rw [Bool.eq_iff_iff]
  simp only [Bool.and_eq_true, beq_iff_eq, decide_eq_true_eq, zm, Prod.mk.injEq]
instance (s : DoorT) : Decidable (DOk s) := by unfold DOk; infer_instance
instance (n : Int) (s : MotT) : Decidable (MOk n s) := by unfold MOk; infer_instance
theorem door_is (s : DoorT) : F62 s = decide (DOk s) := by
  rw [Bool.eq_iff_iff, decide_eq_true_eq]
  unfold F62 F82
  rw [z5_iff]
  obtain ⟨a, b, c, d, e⟩ := s
  simp only [cond_eq_ite, beq_iff_eq, DOk]
  split
  · rename_i h
    rw [decide_eq_true_eq]
    constructor
    · exact Or.inl
    · rintro (h1 | h1)
      · exact h1
      · omega
  · rename_i h
    simp only [Bool.and_eq_true, decide_eq_true_eq]
    constructor
    · intro h1; right; omega
    · rintro (h1 | h1)
      · exact absurd (congrArg Prod.fst h1) h
      · omega
theorem beside_eq (n f c : Int) (hf : -100 ≤ f ∧ f ≤ 1000) : F83 (n, f, c) = if c = 1 then (f + 1, decide (0 ≤ f + 1 ∧ f + 1 < n)) else if c = 2 then (f - 1, decide (0 ≤ f - 1 ∧ f - 1 < n)) else (0, false) := by
  unfold F83
  simp only
  by_cases h1 : c = 1
  · subst h1
    have e1 : nthT [(0 : Int), 1, -1] 1 = 1 := rfl
    simp only [bne_self_eq_false, Bool.false_and, cond_false, e1, if_true]
    rw [wrap_i64_of (by omega) (by omega)]
    refine Prod.ext rfl ?_
    rw [Bool.eq_iff_iff]; simp
  · by_cases h2 : c = 2
    · subst h2
      have e1 : nthT [(0 : Int), 1, -1] 2 = -1 := rfl
      simp only [bne_self_eq_false, Bool.and_false, cond_false, e1, if_true]
      rw [wrap_i64_of (by omega) (by omega), if_neg (by decide)]
      refine Prod.ext (by simp only; omega) ?_
      rw [Bool.eq_iff_iff]; simp; omega
    · have e : ((c != 1) && (c != 2)) = true := by simp [h1, h2]
      rw [e, cond_true, if_neg h1, if_neg h2]
theorem mot_is (n : Int) (s : MotT) (hn : 2 ≤ n ∧ n ≤ 32) : F63 (n, s) = decide (MOk n s) := by
  obtain ⟨c, t, f⟩ := s
  unfold F63
  simp only
  rw [Bool.eq_iff_iff, decide_eq_true_eq]
  unfold MOk
  simp only
  by_cases hf : 0 ≤ f ∧ f < n
  · rw [beside_eq n f c (by omega)]
    simp only [cond_eq_ite, Bool.or_eq_true, decide_eq_true_eq, beq_iff_eq]
    split
    · simp only [Bool.false_eq_true, false_iff]; omega
    · split
      · simp only [beq_iff_eq]; omega
      · split
        · simp only [decide_eq_true_eq]; omega
        · split
          · simp only [decide_eq_true_eq]; omega
          · simp only [Bool.false_eq_true, false_iff]; omega
  · simp only [cond_eq_ite, Bool.or_eq_true, decide_eq_true_eq, beq_iff_eq]
    rw [if_pos (by omega)]
    simp only [Bool.false_eq_true, false_iff]; omega
theorem dmore_eq {n : Int} (h : 0 ≤ n ∧ n ≤ 1000000) : F89 n = mor n := by
  unfold F89 mor
  rw [wrap_i64_of (by omega) (by omega)]
theorem dcounted_eq {s : DoorT} (h : 0 ≤ s.2.2.1 ∧ s.2.2.1 ≤ 1000000) : F85 s = (s.1, s.2.1, dcnt s.2.2.1, s.2.2.2) := by
  unfold F85 dcnt
  by_cases h0 : s.2.2.1 = 0
  · simp [h0]
    obtain ⟨a, b, c, d⟩ := s
    simp only at h0; subst h0; rfl
  · simp only [bne_iff_ne, ne_eq, h0, not_false_eq_true, if_true, cond_eq_ite, if_false]
    rw [dmore_eq h]
theorem dtick_eq (c : CarT) (s : DoorT) (door : Int) (block : Bool) (hs : 1 ≤ s.1 ∧ s.1 ≤ 3) (ht : 0 ≤ s.2.1 ∧ s.2.1 ≤ 1000000) (hi : 0 ≤ s.2.2.1 ∧ s.2.2.1 ≤ 1000000) (hc : 0 ≤ s.2.2.2.2 ∧ s.2.2.2.2 ≤ 1000000) :
    F65 (c, s, door, block, false) = dtick c.2.2.2.2.2.2.1 c.2.2.2.2.2.2.2.1 s door block := by
  have hS : F62 s = true := by
    rw [door_is, decide_eq_true_eq]
    exact Or.inr ⟨hs, ht, hi, hc⟩
  have hC := dcounted_eq hi
  obtain ⟨st, tm, si, nu, cy⟩ := s
  simp only [] at hs ht hi hc hC hS
  unfold F65
  have e : (st == 0) = false := by simp; omega
  simp only [hS, Bool.not_true, cond_false, e, hC]
  unfold dtick
  simp only []
  generalize dcnt si = sj
  simp only [F87, F88, F86, dmore_eq ht, dmore_eq hc, wrap_i64_of (x := tm + 1) (by omega) (by omega), cond_eq_ite, Bool.and_eq_true, beq_iff_eq, decide_eq_true_eq, Bool.not_eq_true']
  (repeat' split) <;> first | rfl | (exfalso; omega) | (exfalso; simp_all; done) | rw [show st = 1 by omega] | rw [show st = 2 by omega] | rw [show st = 3 by omega]
theorem dopen_eq (c : CarT) (door : Int) (block : Bool) : F65 (c, zd, door, block, true) = ((1, 0, 0, false, 0), 3) := by
  have hS : F62 zd = true := by rw [door_is]; decide
  unfold F65
  simp only [hS, Bool.not_true, cond_false]
  rfl
def mtick (fb : FbT) (s : MotT) : MotT × Int × Bool :=
  if s.1 ≠ 0 then (if fb.2.1 = true ∧ fb.1 = tgt s then (zm, 0, true) else ((s.1, mor s.2.1, s.2.2), s.1, false))
  else if fb.2.1 = true then (zm, 0, false) else ((s.1, mor s.2.1, s.2.2), s.1, false)
theorem mtick_eq (n : Int) (s : MotT) (fb : FbT) (hn : 2 ≤ n ∧ n ≤ 32) (hs : MOk n s) (hf : 0 ≤ fb.1 ∧ fb.1 < n) : F84 (n, s, fb, 0) = mtick fb s := by
  have hS : F63 (n, s) = true := by rw [mot_is n s hn, decide_eq_true_eq]; exact hs
  obtain ⟨c, t, f⟩ := s
  obtain ⟨g, lv, dr, bl⟩ := fb
  unfold MOk at hs
  simp only at hs hf hS
  have hff : -100 ≤ f ∧ f ≤ 1000 := by omega
  have hgg : -100 ≤ g ∧ g ≤ 1000 := by omega
  unfold F84
  simp only [hS, Bool.not_true, Bool.false_or]
  have e1 : (decide (g < 0) || decide (g ≥ n)) = false := by simp; omega
  rw [e1, cond_false, wrap_i64_of (x := t + 1) (by omega) (by omega)]
  have e0 : F83 (n, g, 0) = (0, false) := by rw [beside_eq n g 0 hgg]; rfl
  rw [e0, beside_eq n f c hff]
  unfold mtick tgt mor
  simp only
  rcases hs.2 with ⟨h1, h2⟩ | ⟨h1, h2, h3⟩ | ⟨h1, h2, h3⟩
  · subst h1 h2
    cases lv <;> rfl
  · subst h1
    have hd : decide (0 ≤ f + 1 ∧ f + 1 < n) = true := by simp; omega
    simp only [if_true, hd, Bool.true_and, Bool.true_or, cond_true]
    by_cases hg : g = f + 1
    · subst hg
      cases lv <;> simp
    · have hgb : (g == f + 1) = false := by rw [beq_eq_false_iff_ne]; exact hg
      rw [hgb]
      cases lv <;> simp [hg]
  · subst h1
    have hd : decide (0 ≤ f - 1 ∧ f - 1 < n) = true := by simp; omega
    simp only [if_true, hd, Bool.true_and, Bool.true_or, cond_true, if_neg (show ¬ (2 : Int) = 1 by decide)]
    by_cases hg : g = f - 1
    · subst hg
      cases lv <;> simp
    · have hgb : (g == f - 1) = false := by rw [beq_eq_false_iff_ne]; exact hg
      rw [hgb]
      cases lv <;> simp [hg]
theorem mgo_eq (n w : Int) (fb : FbT) (hn : 2 ≤ n ∧ n ≤ 32) (hf : 0 ≤ fb.1 ∧ fb.1 < n) (hl : fb.2.1 = true) (hw : (w = 1 ∧ fb.1 + 1 < n) ∨ (w = 2 ∧ 0 < fb.1)) : F84 (n, zm, fb, w) = ((w, 0, fb.1), w, false) := by
  have hS : F63 (n, zm) = true := by rw [mot_is n zm hn, decide_eq_true_eq]; exact ⟨by decide, Or.inl ⟨rfl, rfl⟩⟩
  obtain ⟨g, lv, dr, bl⟩ := fb
  simp only at hf hl hw
  subst hl
  unfold F84
  simp only [hS, Bool.not_true, Bool.false_or]
  have e1 : (decide (g < 0) || decide (g ≥ n)) = false := by simp; omega
  rw [e1, cond_false]
  have e0 : F83 (n, 0, 0) = (0, false) := by rw [beside_eq n 0 0 (by decide)]; rfl
  rw [e0, beside_eq n g w (by omega)]
  simp only [Bool.false_and, cond_false, Bool.not_true, Bool.or_self]
  rcases hw with ⟨rfl, h⟩ | ⟨rfl, h⟩
  · have hd : decide (0 ≤ g + 1 ∧ g + 1 < n) = true := by simp; omega
    simp [hd]
  · have hd : decide (0 ≤ g - 1 ∧ g - 1 < n) = true := by simp; omega
    simp only [if_neg (show ¬ (2 : Int) = 1 by decide), if_true, hd, cond_true]
theorem pmove_val {b : BldT} (hB : IsB b) (hl : b.cars.length ≤ maxLen) {c id f : Int} (hc : 0 ≤ c ∧ c < (b.2.2.2.2.2.2.2.length : Int)) (hf : 0 ≤ f ∧ f < b.1) :
    F68 (b, c, id, f) = if id < b.2.2.2.1 then 0 else if (nthT b.2.2.2.2.2.2.2 c).2.2.2.2.2.2.2.2 > f then 1 else if (nthT b.2.2.2.2.2.2.2 c).2.2.2.2.2.2.2.2 < f then 2 else 0 := by
  unfold F68
  simp only [valid_of hB hl]
  have e : (((((((0 : Int) != (0 : Int)) || (decide (c < (0 : Int)))) || (decide (c ≥ (b.2.2.2.2.2.2.2.length : Int)))) || (decide (f < (0 : Int)))) || (decide (f ≥ b.1))) || (decide (id < b.2.2.2.1))) = decide (id < b.2.2.2.1) := by
    rw [Bool.eq_iff_iff]
    simp only [Bool.or_eq_true, decide_eq_true_eq, bne_iff_ne, ne_eq, not_true_eq_false, false_or]
    omega
  rw [e]
  simp only [cond_eq_ite, decide_eq_true_eq]
theorem car_home {b : BldT} (hB : IsB b) {c : Int} (hc : 0 ≤ c ∧ c < (b.2.2.2.2.2.2.2.length : Int)) : 0 ≤ (nthT b.2.2.2.2.2.2.2 c).2.2.2.2.2.2.2.2 ∧ (nthT b.2.2.2.2.2.2.2 c).2.2.2.2.2.2.2.2 < b.1 := by
  have h := car_at hB hc.1 hc.2
  simp only [carOk, tOk, Bool.and_eq_true, decide_eq_true_eq] at h
  have := h.2
  omega
abbrev nC (b : BldT) (s : CarS) (f : Int) (hall : Int × Int) : Int × Int × Int := F66 (b.1, s.1, f, s.2.2.2.1, hall)
abbrev nN (b : BldT) (s : CarS) (f : Int) (hall : Int × Int) : Int × Int := F67 (b.1, s.1, f, s.2.2.2.1, hall)
abbrev nP (b : BldT) (car : Int) (s : CarS) (f : Int) : Int := F68 (b, car, s.2.2.2.2.2.1, f)
theorem cnp_of {b : BldT} {car : Int} {n f : Nat} {s : CarS} {hall : Int × Int} (hB : IsB b) (hl : b.cars.length ≤ maxLen) (hn : b.1 = n) (hc : 0 ≤ car ∧ car < (b.2.2.2.2.2.2.2.length : Int)) (hf : f < n) (h : NS n s) (wu : W hall.1) (wd : W hall.2) :
    CNP n f (nC b s f hall) (nN b s f hall) (nP b car s f) ∧ ((nC b s f hall).1 = 3 → (nN b s f hall).1 = (nC b s f hall).2.2) := by
  have hfl := hB.fl
  obtain ⟨⟨dir, op⟩, dr, mo, c, sh, id, fa⟩ := s
  have a1 := h.sd; have a2 := h.so
  simp only at a1 a2
  obtain ⟨dir, rfl⟩ := Int.eq_ofNat_of_zero_le a1.1
  obtain ⟨op, rfl⟩ := Int.eq_ofNat_of_zero_le a2.1
  have ok : Ok n f (dir : Int) (op : Int) c hall.1 hall.2 := ⟨by omega, by omega, hf, a1, a2, h.wc, wu, wd⟩
  obtain ⟨ab, be, s, e1, e2⟩ := Choose_ch ok
  have ha := up_room ok s
  have hb := down_room s
  have t := T1 dir (by omega) op (by omega) (bit (cA n c) f) (bit (cU n hall.1) f) (bit (cD n hall.2) f) (decide (0 < ab)) (decide (0 < be)) (decide (be ≥ ab))
  have t6 := S6 dir (by omega) op (by omega) (bit (cA n c) f) (bit (cU n hall.1) f) (bit (cD n hall.2) f) (decide (0 < ab)) (decide (0 < be)) (decide (be ≥ ab))
  have hp := pmove_val hB hl (id := id) (f := (f : Int)) hc (by omega)
  have hh := car_home hB hc
  unfold nC nN nP
  rw [hn, hp]
  rw [show (((n : Int), ((dir : Int), (op : Int)), (f : Int), c, hall) : Int × (Int × Int) × Int × Int × Int × Int) = ((n : Int), ((dir : Int), (op : Int)), (f : Int), c, hall.1, hall.2) from rfl, e1, e2]
  generalize ch (dir : Int) (op : Int) (bit (cA n c) f) (bit (cU n hall.1) f) (bit (cD n hall.2) f) (decide (0 < ab)) (decide (0 < be)) (decide (be ≥ ab)) = C at t t6
  generalize chN (dir : Int) (op : Int) (bit (cA n c) f) (bit (cU n hall.1) f) (bit (cD n hall.2) f) (decide (0 < ab)) (decide (0 < be)) (decide (be ≥ ab)) = N at t
  have hpp : ∀ p, p = (if id < b.2.2.2.1 then (0 : Int) else if (nthT b.2.2.2.2.2.2.2 car).2.2.2.2.2.2.2.2 > (f : Int) then 1 else if (nthT b.2.2.2.2.2.2.2 car).2.2.2.2.2.2.2.2 < (f : Int) then 2 else 0) → (p = 0) ∨ (p = 1 ∧ f + 1 < n) ∨ (p = 2 ∧ 0 < f) := by
    intro p hp
    split at hp
    · exact Or.inl hp
    · split at hp
      · right; left; omega
      · split at hp
        · right; right; omega
        · exact Or.inl hp
  rcases t with ⟨t1, t2, t3, t4⟩ | ⟨t1, t2, rfl⟩ | ⟨t1, t2, rfl⟩ | ⟨t1, t2, rfl⟩
  · exact ⟨⟨by omega, by omega, t3, t4, by omega, by omega, hpp _ rfl⟩, fun _ => t2⟩
  · have := ha t2
    exact ⟨⟨by omega, by omega, by decide, by decide, by omega, by omega, hpp _ rfl⟩, fun _ => by omega⟩
  · have := hb t2
    exact ⟨⟨by omega, by omega, by decide, by decide, by omega, by omega, hpp _ rfl⟩, fun _ => by omega⟩
  · exact ⟨⟨by omega, by omega, by decide, by decide, by omega, by omega, hpp _ rfl⟩, fun _ => by omega⟩
theorem or_one : ∀ o : Nat, o < 8 → (IntKind.i64.wrap ((BitVec.ofInt IntKind.i64.bits (o : Int) ||| BitVec.ofInt IntKind.i64.bits (1 : Int)).toNat : Int)) = mark1 (o : Int) := by decide +kernel
end Go.Proofs.YtngbcgnihbjfnaaGreatDoor.Sp
end

section
/- The control of a modernised car: a tick of the program is the plain one (own work). -/
namespace Go.Proofs.YtngbcgnihbjfnaaGreatDoor.Sp
open Go Sy
set_option linter.unusedVariables false
set_option linter.unusedSimpArgs false
set_option maxRecDepth 10000
abbrev cfgOf (b : BldT) (car : Int) : CarT := nthT b.2.2.2.2.2.2.2 car
abbrev cS_ (c : CarT) : Int := c.2.2.2.2.1
abbrev cT_ (c : CarT) : Int := c.2.2.2.2.2.1
abbrev cD_ (c : CarT) : Int := c.2.2.2.2.2.2.1
abbrev cH_ (c : CarT) : Int := c.2.2.2.2.2.2.2.1
section
variable {b : BldT} {car : Int} {n f : Nat} {s : CarS} {fb : FbT} {cmd : Int} {hall : Int × Int}
theorem dok_of (h : DOk s.2.1) (h0 : s.2.1.1 ≠ 0) : (1 ≤ s.2.1.1 ∧ s.2.1.1 ≤ 3) ∧ (0 ≤ s.2.1.2.1 ∧ s.2.1.2.1 ≤ 1000000) ∧ (0 ≤ s.2.1.2.2.1 ∧ s.2.1.2.2.1 ≤ 1000000) ∧ 0 ≤ s.2.1.2.2.2.2 ∧ s.2.1.2.2.2.2 ≤ 1000000 := by
  rcases h with h | h
  · rw [h] at h0; exact absurd rfl h0
  · exact h
theorem cyc_eq (h : DOk s.2.1) (h0 : s.2.1.1 ≠ 0) : (F42 (b, car, s, fb, cmd)).2 = (b, car, (ncyc (cD_ (cfgOf b car)) (cH_ (cfgOf b car)) fb s).1, fb, (ncyc (cD_ (cfgOf b car)) (cH_ (cfgOf b car)) fb s).2) := by
  have hd := dok_of h h0
  unfold F42 F26 ncyc
  simp only
  rw [dtick_eq _ _ _ _ hd.1 hd.2.1 hd.2.2.1 hd.2.2.2]
  generalize dtick _ _ s.2.1 fb.2.2.1 fb.2.2.2 = q
  simp only [cond_eq_ite, beq_iff_eq]
  by_cases h2 : q.1.1 = 2
  · rw [if_pos h2, if_pos h2, if_neg (by omega)]; rfl
  · rw [if_neg h2, if_neg h2]
    by_cases h3 : q.1.1 = 0
    · rw [if_pos h3, if_pos h3]
    · rw [if_neg h3, if_neg h3]
theorem dec_eq (hB : IsB b) (hn : b.1 = n) (hf : f < n) (ef : fb.1 = f) (hl : fb.2.1 = true) (h : NS n s) (hz : s.2.1 = zd) (hm : s.2.2.1 = zm) (k : CNP n f (nC b s f hall) (nN b s f hall) (nP b car s f)) :
    (F43 (hall, b, car, s, fb, cmd)).2 = (b, car, (ndec (nC b s f hall) (nN b s f hall) (nP b car s f) f s).1, fb, (ndec (nC b s f hall) (nN b s f hall) (nP b car s f) f s).2) := by
  have hfl := hB.fl
  obtain ⟨sw, dr, mo, c, sh, id, fa⟩ := s
  have hid := h.id
  simp only at hz hm hid
  subst hz hm
  have hgo : ∀ w : Int, (w = 1 ∧ f + 1 < n) ∨ (w = 2 ∧ 0 < f) → F84 (b.1, zm, fb, w) = ((w, 0, (f : Int)), w, false) := fun w hw => by
    rw [mgo_eq b.1 w fb hfl (by omega) hl (by omega), ef]
  unfold F43 K43_1 K43_2 F26 F64 ndec
  simp only [ef]
  rw [show F66 (b.1, sw, (f : Int), c, hall) = nC b (sw, zd, zm, c, sh, id, fa) f hall from rfl, show F67 (b.1, sw, (f : Int), c, hall) = nN b (sw, zd, zm, c, sh, id, fa) f hall from rfl,
    show F68 (b, car, id, (f : Int)) = nP b car (sw, zd, zm, c, sh, id, fa) f from rfl, dopen_eq, wrap_i64_of (x := id + 1) (by omega) (by omega)]
  generalize nC b (sw, zd, zm, c, sh, id, fa) f hall = C at k ⊢
  generalize nN b (sw, zd, zm, c, sh, id, fa) f hall = N at k ⊢
  generalize nP b car (sw, zd, zm, c, sh, id, fa) f = p at k ⊢
  simp only [cond_eq_ite, beq_iff_eq, bne_iff_ne]
  by_cases c3 : C.1 = 3
  · simp only [c3, if_true]
  · by_cases c1 : C.1 = 1
    · have hu := k.up c1
      simp only [c1, Int.reduceEq, if_true, if_false, true_or, hgo 1 (Or.inl ⟨rfl, hu⟩)]
    · by_cases c2 : C.1 = 2
      · have hd := k.dn c2
        simp only [c2, Int.reduceEq, if_true, if_false, or_true, hgo 2 (Or.inr ⟨rfl, hd⟩)]
      · by_cases hp : p = 0
        · simp only [c3, c1, c2, hp, if_false, or_self, ne_eq, not_true_eq_false]
          rfl
        · have hg := hgo p (by rcases k.p with x | x | x <;> omega)
          simp only [c3, c1, c2, hp, if_false, or_self, ne_eq, not_false_eq_true, if_true, hg]
theorem ob_eq (h : 0 ≤ s.1.2 ∧ s.1.2 ≤ 7) : (IntKind.i64.wrap ((BitVec.ofInt IntKind.i64.bits s.1.2 ||| BitVec.ofInt IntKind.i64.bits (1 : Int)).toNat : Int)) = mark1 s.1.2 := by
  obtain ⟨o, e⟩ := Int.eq_ofNat_of_zero_le h.1
  rw [e]
  exact or_one o (by omega)
theorem flr_eq (hB : IsB b) (hn : b.1 = n) (hf : f < n) (ef : fb.1 = f) (hl : fb.2.1 = true) (h : NS n s) (hz : s.2.1 = zd) (hm : s.2.2.1 = zm) (k : CNP n f (nC b s f hall) (nN b s f hall) (nP b car s f)) :
    actTail hall (b, car, s, fb, cmd) = (b, car, (nflr (cD_ (cfgOf b car)) (cH_ (cfgOf b car)) (nC b s f hall) (nN b s f hall) (nP b car s f) fb s).1, fb, (nflr (cD_ (cfgOf b car)) (cH_ (cfgOf b car)) (nC b s f hall) (nN b s f hall) (nP b car s f) fb s).2) := by
  have hst : (s.2.1.1 == (0 : Int)) = true := by rw [hz]; rfl
  unfold actTail nflr
  simp only [hst, Bool.true_and, cond_eq_ite, bne_iff_ne, ne_eq]
  by_cases hd : fb.2.2.1 = 2
  · have hst' : s.2.1.1 = 0 := by rw [hz]
    simp only [hd, hst', not_true_eq_false, if_false, ef]
    exact dec_eq hB hn hf ef hl h hz hm k
  · simp only [hd, not_false_eq_true, if_true, ob_eq h.so]
    rw [cyc_eq (s := ((s.1.1, mark1 s.1.2), ((1 : Int), (0 : Int), (0 : Int), false, (0 : Int)), s.2.2.1, s.2.2.2.1, (0 : Int), s.2.2.2.2.2)) DOk.one (by show (1 : Int) ≠ 0; decide)]
    rw [hm]
theorem press_eq (p : Int) : (F40 (p, b, car, s, fb, cmd)).2 = (b, car, npress b.1 fb.1 s p, fb, cmd) := by
  unfold F40 npress
  simp only [cond_eq_ite, bne_iff_ne, ne_eq]
  by_cases h0 : s.2.1.1 = 0
  · rw [if_neg (by simpa using h0), if_pos h0]
  · rw [if_pos h0, if_neg h0]
theorem core_eq (hB : IsB b) (hn : b.1 = n) (hf : f < n) (ef : fb.1 = f) (h : NS n s) (k : CNP n f (nC b s f hall) (nN b s f hall) (nP b car s f)) :
    (bif (s.2.1.1 == (0 : Int)) then (bif !(F41 (b, car, s, fb, 0)).1 then (F41 (b, car, s, fb, 0)).2 else actTail hall (F41 (b, car, s, fb, 0)).2) else actTail hall (b, car, s, fb, 0))
      = (b, car, (ncore (cD_ (cfgOf b car)) (cH_ (cfgOf b car)) (nC b s f hall) (nN b s f hall) (nP b car s f) fb s).1, fb, (ncore (cD_ (cfgOf b car)) (cH_ (cfgOf b car)) (nC b s f hall) (nN b s f hall) (nP b car s f) fb s).2) := by
  have hfl := hB.fl
  have hmt := mtick_eq b.1 s.2.2.1 fb hfl (by rw [hn]; exact h.mo) (by omega)
  by_cases h0 : s.2.1.1 = 0
  · have hz := h.dz (by simpa using h0)
    have e0 : (s.2.1.1 == (0 : Int)) = true := by simpa using h0
    rw [e0, cond_true]
    have hfa : fb.2.1 = true → actTail hall (b, car, (s.1, s.2.1, zm, s.2.2.2), fb, 0) = (b, car, (nflr (cD_ (cfgOf b car)) (cH_ (cfgOf b car)) (nC b s f hall) (nN b s f hall) (nP b car s f) fb (s.1, s.2.1, zm, s.2.2.2)).1, fb, (nflr (cD_ (cfgOf b car)) (cH_ (cfgOf b car)) (nC b s f hall) (nN b s f hall) (nP b car s f) fb (s.1, s.2.1, zm, s.2.2.2)).2) :=
      fun hlv => flr_eq (cmd := 0) (s := (s.1, s.2.1, zm, s.2.2.2)) (hall := hall) (car := car) hB hn hf ef (fb := fb) hlv h.moz hz rfl k
    unfold F41 F64 ncore
    rw [if_neg (by simpa using h0)]
    simp only
    rw [hmt, z3_iff]
    unfold mtick
    by_cases hc : s.2.2.1.1 = 0
    · have hnm : (!(s.2.2.1.1 != (0 : Int))) = true := by simp [hc]
      rw [hnm]
      have hc' : ¬ (s.2.2.1.1 ≠ 0) := by simpa using hc
      simp only [hc', if_false]
      cases hlv : fb.2.1 with
      | true =>
        have hfa' := hfa hlv
        by_cases hmz : s.2.2.1 = zm
        · have e1 : decide (s.2.2.1 = zm) = true := by simpa using hmz
          have es : (s.1, s.2.1, zm, s.2.2.2) = s := by rw [← hmz]
          rw [e1]
          rw [es] at hfa' ⊢
          simp only [Bool.and_true, cond_true, Bool.not_true, cond_false, if_true]
          exact hfa'
        · have e1 : decide (s.2.2.1 = zm) = false := by simpa using hmz
          rw [e1]
          simp only [Bool.false_and, Bool.true_and, Bool.or_true, if_true, cond_true, Bool.not_true, cond_false]
          exact hfa'
      | false =>
        simp only [Bool.and_false, cond_false, Bool.or_false, Bool.false_eq_true, if_false, cond_true, Bool.not_false, hc, Bool.true_or]
    · have hnm : (!(s.2.2.1.1 != (0 : Int))) = false := by simp [hc]
      have hnz : decide (s.2.2.1 = zm) = false := by
        rw [decide_eq_false_iff_not]
        intro e; exact hc (congrArg Prod.fst e)
      rw [hnm, hnz]
      have hc' : s.2.2.1.1 ≠ 0 := hc
      simp only [hc', ne_eq, not_false_eq_true, if_true, Bool.false_and, cond_false, Bool.or_false, Bool.false_or]
      by_cases hq : fb.2.1 = true ∧ fb.1 = tgt s.2.2.1
      · simp only [hq, and_self, if_true, cond_true, Bool.not_true, cond_false]
        exact hfa hq.1
      · rw [if_neg hq, if_neg hq]
        simp only [cond_false]
        by_cases hd : s.1.1 = 0
        · have e1 : (s.1.1 != (0 : Int)) = false := by simpa using hd
          rw [e1]
          simp only [cond_false, Bool.not_false, cond_true, hd, not_true_eq_false, if_false]
        · have e1 : (s.1.1 != (0 : Int)) = true := by simpa using hd
          rw [e1]
          simp only [cond_true, Bool.not_false, hd, not_false_eq_true, if_true]
  · have e0 : (s.2.1.1 == (0 : Int)) = false := by simpa using h0
    have e1 : (s.2.1.1 != (0 : Int)) = true := by simpa using h0
    rw [e0, cond_false]
    unfold ncore actTail
    rw [if_pos h0]
    simp only [e0, e1, Bool.false_and, cond_false, cond_true]
    exact cyc_eq h.dr h0
theorem watch_eq (c : CarT) (q : CarS × Int) : F25 (c, q.1, q.2) = nwatch (cT_ c) (cS_ c) q := by
  unfold F25 F44 F45 nwatch nlate
  simp only [cond_eq_ite, Bool.or_eq_true, Bool.and_eq_true, beq_iff_eq, decide_eq_true_eq]
def ntick (b : BldT) (car : Int) (s : CarS) (fb : FbT) (press : Int) (hall : Int × Int) : CarS × Int :=
  nwatch (cT_ (cfgOf b car)) (cS_ (cfgOf b car)) (ncore (cD_ (cfgOf b car)) (cH_ (cfgOf b car)) (nC b (npress b.1 fb.1 s press) fb.1 hall) (nN b (npress b.1 fb.1 s press) fb.1 hall) (nP b car (npress b.1 fb.1 s press) fb.1) fb (npress b.1 fb.1 s press))
theorem isfb_iff : (F23 (b, fb) = true) ↔ (0 ≤ fb.1 ∧ fb.1 < b.1 ∧ 0 ≤ fb.2.2.1 ∧ fb.2.2.1 ≤ 2) := by
  unfold F23
  simp only [Bool.and_eq_true, decide_eq_true_eq]
  omega
theorem tick_eq {press : Int} (hB : IsB b) (hl : b.cars.length ≤ maxLen) (hn : b.1 = n) (hc : 0 ≤ car ∧ car < (b.2.2.2.2.2.2.2.length : Int)) (h : NS n s) (his : F39 (b, s) = true) (hfb : F23 (b, fb) = true) (wp : W press) (wu : W hall.1) (wd : W hall.2) :
    F13 (b, car, s, fb, press, hall) = ((ntick b car s fb press hall).1, (ntick b car s fb press hall).2, 0) := by
  have hfl := hB.fl
  have hf := isfb_iff.1 hfb
  obtain ⟨f, ef⟩ := Int.eq_ofNat_of_zero_le hf.1
  have hic : F22 (b, car, s) = true := by
    unfold F22
    simp only [his, Bool.true_and, Bool.and_eq_true, decide_eq_true_eq]
    exact hc
  unfold F13 K13_1
  simp only [hic, hfb, Bool.not_true, Bool.or_self, cond_false, h.fa]
  rw [act_eq]
  simp only
  rw [press_eq]
  have hp := npress_NS (n := n) (f := fb.1) (p := press) (s := s) (by omega) wp h
  rw [← hn] at hp
  have hk := (cnp_of (f := f) (s := npress b.1 fb.1 s press) hB hl hn hc (by omega) hp wu wd).1
  have e := core_eq (hall := hall) (car := car) hB hn (by omega) ef hp hk
  simp only
  rw [e]
  unfold F26 ntick
  simp only
  rw [ef] at e ⊢
  rw [watch_eq]
theorem ntick_NS {press : Int} (hB : IsB b) (hl : b.cars.length ≤ maxLen) (hn : b.1 = n) (hc : 0 ≤ car ∧ car < (b.2.2.2.2.2.2.2.length : Int)) (h : NS n s) (hf : 0 ≤ fb.1 ∧ fb.1 < b.1) (wp : W press) (wu : W hall.1) (wd : W hall.2) :
    (ntick b car s fb press hall = (zf, 0)) ∨ (NS n (ntick b car s fb press hall).1 ∧ ¬ nlate (cT_ (cfgOf b car)) (cS_ (cfgOf b car)) (ntick b car s fb press hall).1) := by
  have hfl := hB.fl
  obtain ⟨f, ef⟩ := Int.eq_ofNat_of_zero_le hf.1
  have hp := npress_NS (n := n) (f := fb.1) (p := press) (s := s) (by omega) wp h
  rw [← hn] at hp
  have hk := (cnp_of (f := f) (s := npress b.1 fb.1 s press) hB hl hn hc (by omega) hp wu wd).1
  have hcore := ncore_NS (dw := cD_ (cfgOf b car)) (ho := cH_ (cfgOf b car)) (by omega) (by omega) ef hk hp
  unfold ntick nwatch
  split
  · exact Or.inl rfl
  · rename_i hnl
    right
    rw [ef] at hnl ⊢
    rw [ef] at hcore
    exact ⟨hcore, hnl⟩
end
end Go.Proofs.YtngbcgnihbjfnaaGreatDoor.Sp
end

section
/- The states of a modernised car (own work). -/
namespace Go.Proofs.YtngbcgnihbjfnaaGreatDoor.Sp
open Go Sy
set_option linter.unusedVariables false
set_option linter.unusedSimpArgs false
set_option maxRecDepth 10000
theorem shr0_iff {c : Int} (hc : W c) (n : Nat) : (shr32 c (n : Int) = 0) ↔ ∀ i, bit c i = true → i < n := by
  constructor
  · intro h i hi
    rcases Nat.lt_or_ge i n with x | x
    · exact x
    · have := bit_shr hc n (i - n)
      rw [h, bit_zero, show n + (i - n) = i by omega, hi] at this
      cases this
  · intro h
    refine W.ext (W_shr hc _ (by omega)) W.zero fun i hi => ?_
    rw [bit_shr hc, bit_zero]
    cases hb : bit c (n + i) with
    | false => rfl
    | true => have := h _ hb; omega
abbrev zz (s : CarS) : Bool := (((s.1.1 == (0 : Int)) && (s.1.2 == (0 : Int))) && (((s.2.1.1 == (0 : Int)) && ((s.2.1.2.1 == (0 : Int)) && ((s.2.1.2.2.1 == (0 : Int)) && ((s.2.1.2.2.2.1 == false) && (s.2.1.2.2.2.2 == (0 : Int)))))) && (((s.2.2.1.1 == (0 : Int)) && ((s.2.2.1.2.1 == (0 : Int)) && (s.2.2.1.2.2 == (0 : Int)))) && ((s.2.2.2.1 == (0 : Int)) && ((s.2.2.2.2.1 == (0 : Int)) && ((s.2.2.2.2.2.1 == (0 : Int)) && (s.2.2.2.2.2.2 == true)))))))
theorem zz_iff (s : CarS) : zz s = true ↔ s = zf := by
  obtain ⟨⟨d, o⟩, ⟨a, b, c, e, f⟩, ⟨g, h, i⟩, j, k, l, m⟩ := s
  simp only [zz, Bool.and_eq_true, beq_iff_eq, zf, zd, zm, Prod.mk.injEq]
theorem NS.iff {n : Nat} {s : CarS} (wc : W s.2.2.2.1) : NS n s ↔ ((0 ≤ s.1.1 ∧ s.1.1 ≤ 2) ∧ 0 ≤ s.1.2 ∧ s.1.2 ≤ 7) ∧ DOk s.2.1 ∧ MOk n s.2.2.1 ∧ (s.2.1 = zd ∨ s.2.2.1 = zm) ∧ (shr32 s.2.2.2.1 (n : Int) = 0) ∧ (0 ≤ s.2.2.2.2.1 ∧ s.2.2.2.2.1 ≤ 2) ∧ (0 ≤ s.2.2.2.2.2.1 ∧ s.2.2.2.2.2.1 ≤ 1000000) ∧ s.2.2.2.2.2.2 = false :=
  ⟨fun h => ⟨⟨h.sd, h.so⟩, h.dr, h.mo, h.ex, (shr0_iff wc n).2 h.cb, h.sh, h.id, h.fa⟩, fun h => ⟨h.1.1, h.1.2, h.2.1, h.2.2.1, h.2.2.2.1, wc, (shr0_iff wc n).1 h.2.2.2.2.1, h.2.2.2.2.2.1, h.2.2.2.2.2.2.1, h.2.2.2.2.2.2.2⟩⟩
def isB2 (n : Int) (s : CarS) : Bool :=
  bif ((((!(F61 s.1)) || (!(decide (DOk s.2.1)))) || (!(decide (MOk n s.2.2.1)))) || ((!(decide (s.2.1 = zd))) && (!(decide (s.2.2.1 = zm))))) then false
  else ((((((shr32 s.2.2.2.1 n) == (0 : Int)) && (decide (s.2.2.2.2.1 ≥ (0 : Int)))) && (decide (s.2.2.2.2.1 ≤ (2 : Int)))) && (decide (s.2.2.2.2.2.1 ≥ (0 : Int)))) && (decide (s.2.2.2.2.2.1 ≤ (1000000 : Int))))
theorem isB2_iff (n : Int) (s : CarS) : isB2 n s = true ↔ ((0 ≤ s.1.1 ∧ s.1.1 ≤ 2) ∧ 0 ≤ s.1.2 ∧ s.1.2 ≤ 7) ∧ DOk s.2.1 ∧ MOk n s.2.2.1 ∧ (s.2.1 = zd ∨ s.2.2.1 = zm) ∧ (shr32 s.2.2.2.1 n = 0) ∧ (0 ≤ s.2.2.2.2.1 ∧ s.2.2.2.2.1 ≤ 2) ∧ (0 ≤ s.2.2.2.2.2.1 ∧ s.2.2.2.2.2.1 ≤ 1000000) := by
  have hs : F61 s.1 = decide ((0 ≤ s.1.1 ∧ s.1.1 ≤ 2) ∧ 0 ≤ s.1.2 ∧ s.1.2 ≤ 7) := by
    rw [Bool.eq_iff_iff]
    unfold F61
    simp only [Bool.and_eq_true, decide_eq_true_eq]
    omega
  unfold isB2
  rw [hs]
  by_cases h1 : ((0 ≤ s.1.1 ∧ s.1.1 ≤ 2) ∧ 0 ≤ s.1.2 ∧ s.1.2 ≤ 7)
  · by_cases h2 : DOk s.2.1
    · by_cases h3 : MOk n s.2.2.1
      · by_cases h4 : s.2.1 = zd ∨ s.2.2.1 = zm
        · have e : ((!(decide (s.2.1 = zd))) && (!(decide (s.2.2.1 = zm)))) = false := by
            rcases h4 with h | h <;> simp [h]
          simp only [h1, h2, h3, h4, e, decide_true, Bool.not_true, Bool.or_self, cond_false, Bool.and_eq_true, decide_eq_true_eq, beq_iff_eq, true_and, and_self]
          generalize shr32 s.2.2.2.1 n = z
          omega
        · have e : ((!(decide (s.2.1 = zd))) && (!(decide (s.2.2.1 = zm)))) = true := by
            have a1 : ¬ s.2.1 = zd := fun x => h4 (Or.inl x)
            have a2 : ¬ s.2.2.1 = zm := fun x => h4 (Or.inr x)
            simp [a1, a2]
          rw [e, Bool.or_true, cond_true]
          exact ⟨fun x => absurd x (by simp), fun x => absurd x.2.2.2.1 h4⟩
      · have e : decide (MOk n s.2.2.1) = false := by simpa using h3
        rw [e]
        simp only [Bool.not_false, Bool.or_true, Bool.true_or, cond_true]
        exact ⟨fun x => absurd x (by simp), fun x => absurd x.2.2.1 h3⟩
    · have e : decide (DOk s.2.1) = false := by simpa using h2
      rw [e]
      simp only [Bool.not_false, Bool.or_true, Bool.true_or, cond_true]
      exact ⟨fun x => absurd x (by simp), fun x => absurd x.2.1 h2⟩
  · have e : decide ((0 ≤ s.1.1 ∧ s.1.1 ≤ 2) ∧ 0 ≤ s.1.2 ∧ s.1.2 ≤ 7) = false := by simpa using h1
    rw [e]
    simp only [Bool.not_false, Bool.true_or, cond_true]
    exact ⟨fun x => absurd x (by simp), fun x => absurd x.1 h1⟩
theorem isB2_zf (n : Nat) : isB2 n zf = true := by
  rw [isB2_iff]
  refine ⟨by decide, Or.inl rfl, MOk.z n, Or.inl rfl, (shr0_iff W.zero n).2 (fun i h => by rw [bit_zero] at h; cases h), by decide, by decide⟩
theorem isst_iff {b : BldT} {n : Nat} {s : CarS} (hl : b.cars.length ≤ maxLen) (hn : b.1 = n) (wc : W s.2.2.2.1) : (F39 (b, s) = true) ↔ IsB b ∧ (s = zf ∨ NS n s) := by
  unfold F39
  by_cases hB : IsB b
  · have hfl := hB.fl
    have e : F39 (b, s) = bif (s.2.2.2.2.2.2 && !(zz s)) then false else isB2 n s := by
      unfold F39
      simp only
      rw [valid_of hB hl, door_is, mot_is _ _ hfl, hn]
      unfold isB2
      rw [← z5_iff, ← z3_iff]
      rfl
    have e2 : F39 (b, s) = true ↔ IsB b ∧ (s = zf ∨ NS n s) := by
      rw [e]
      simp only [hB, true_and]
      rw [NS.iff wc]
      cases hfa : s.2.2.2.2.2.2 with
      | true =>
        cases hz : zz s with
        | true =>
          have := (zz_iff s).1 hz
          simp only [Bool.not_true, Bool.and_false, cond_false]
          exact ⟨fun _ => Or.inl this, fun _ => by rw [this]; exact isB2_zf n⟩
        | false =>
          simp only [Bool.not_false, Bool.and_true, cond_true]
          refine ⟨fun x => absurd x (by simp), fun x => ?_⟩
          rcases x with x | x
          · rw [(zz_iff s).2 x] at hz; cases hz
          · exact absurd x.2.2.2.2.2.2.2 (by simp)
      | false =>
        have hz : s ≠ zf := fun e => by rw [e] at hfa; cases hfa
        simp only [Bool.false_and, cond_false]
        rw [isB2_iff]
        simp only [and_true]
        exact ⟨fun x => Or.inr x, fun x => x.resolve_left hz⟩
    unfold F39 at e2
    exact e2
  · have hv : F60 b ≠ 0 := fun e => hB (valid_b hl e)
    have e1 : (F60 b != 0) = true := by rw [bne_iff_ne]; exact hv
    simp only
    rw [e1, Bool.true_or, cond_true]
    simp [hB]
end Go.Proofs.YtngbcgnihbjfnaaGreatDoor.Sp
end

section
/- The control of a modernised car: the reference's tick is the plain one (own work). -/
namespace Go.Proofs.YtngbcgnihbjfnaaGreatDoor.Sp
open Go Sy
set_option linter.unusedVariables false
set_option linter.unusedSimpArgs false
set_option maxRecDepth 10000
theorem rdoor_is (s : DoorT) : F56 s = decide (DOk s) := by
  rw [← door_is]
  unfold F56 F62 F78 F82
  by_cases h : s.1 = 0
  · have e : (s.1 == 0) = true := by simpa using h
    rw [e]; rfl
  · have e : (s.1 == 0) = false := by simpa using h
    rw [e]
    simp only [cond_false]
    have e2 : decide (s.1 > 0) = decide (s.1 ≥ 0) := by
      rw [Bool.eq_iff_iff, decide_eq_true_eq, decide_eq_true_eq]; omega
    rw [e2]
theorem rmore_eq {n : Int} (h : 0 ≤ n ∧ n ≤ 1000000) : F58 n = mor n := by
  unfold F58 mor
  rw [wrap_i64_of (by omega) (by omega)]
theorem rtarget_eq (c t f : Int) (h : 0 ≤ f ∧ f ≤ 100) : F49 (c, t, f) = tgt (c, t, f) := by
  unfold F49 tgt
  simp only [cond_eq_ite, beq_iff_eq]
  rw [wrap_i64_of (x := f + 1) (by omega) (by omega), wrap_i64_of (x := f - 1) (by omega) (by omega)]
theorem rmot_is (n : Int) (s : MotT) (hn : 2 ≤ n ∧ n ≤ 32) : F47 (n, s) = decide (MOk n s) := by
  rw [Bool.eq_iff_iff, decide_eq_true_eq]
  obtain ⟨c, t, f⟩ := s
  unfold F47 F48 MOk
  simp only [cond_eq_ite, beq_iff_eq, Bool.or_eq_true, decide_eq_true_eq]
  by_cases hf : 0 ≤ f ∧ f < n
  · rw [rtarget_eq c t f (by omega)]
    unfold tgt
    simp only
    (repeat' split) <;> simp only [Bool.and_eq_true, decide_eq_true_eq, Bool.false_eq_true, false_iff, beq_iff_eq, ge_iff_le] <;> omega
  · have e1 : (decide (f ≥ 0) && decide (f < n)) = false := by
      rw [Bool.and_eq_false_iff]; simp only [decide_eq_false_iff_not]; omega
    rw [e1]
    (repeat' split) <;> simp only [Bool.false_and, Bool.false_eq_true, false_iff, beq_iff_eq] <;> omega
set_option maxHeartbeats 1000000 in
theorem rdtick_eq (c : CarT) (s : DoorT) (door : Int) (block : Bool) (hs : 1 ≤ s.1 ∧ s.1 ≤ 3) (ht : 0 ≤ s.2.1 ∧ s.2.1 ≤ 1000000) (hi : 0 ≤ s.2.2.1 ∧ s.2.2.1 ≤ 1000000) (hc : 0 ≤ s.2.2.2.2 ∧ s.2.2.2.2 ≤ 1000000) :
    F37 (c, s, door, block, false) = dtick c.2.2.2.2.2.2.1 c.2.2.2.2.2.2.2.1 s door block := by
  have hS : F56 s = true := by
    rw [rdoor_is, decide_eq_true_eq]
    exact Or.inr ⟨hs, ht, hi, hc⟩
  obtain ⟨st, tm, si, nu, cy⟩ := s
  simp only [] at hs ht hi hc hS
  have e : (st == 0) = false := by simp; omega
  have key : ∀ sj, sj = dcnt si → F37 (c, (st, tm, si, nu, cy), door, block, false) =
      bif ((st == (1 : Int)) && (door == (1 : Int))) then ((2, 0, max 1 sj, nu, cy), 0)
      else bif ((st == (3 : Int)) && (door == (2 : Int))) then ((0, 0, 0, false, 0), 0)
      else bif (decide (sj > c.2.2.2.2.2.2.2.1)) then F59 (st, tm, sj, nu, cy)
      else bif (((st == (2 : Int)) && (decide (tm + 1 ≥ c.2.2.2.2.2.2.1))) && (!block)) then ((3, 0, sj, nu, cy), 4)
      else bif ((st == (3 : Int)) && block) then ((1, 0, sj, nu, mor cy), 3)
      else ((st, mor tm, sj, nu, cy), nthT [(0 : Int), 3, 0, 4] st) := by
    intro sj hj
    unfold F37
    simp only [hS, Bool.not_true, cond_false, e, F57, rmore_eq ht, rmore_eq hc, rmore_eq hi, wrap_i64_of (x := tm + 1) (by omega) (by omega)]
    by_cases h0 : si = 0
    · have e0 : decide (si > 0) = false := by simp; omega
      have : sj = si := by rw [hj, h0]; rfl
      rw [e0, this]; rfl
    · have e0 : decide (si > 0) = true := by simp; omega
      have : sj = mor si := by rw [hj]; unfold dcnt; rw [if_neg h0]
      rw [e0, this]; rfl
  rw [key _ rfl]
  unfold dtick
  simp only []
  have hsj := dcnt_bd hi
  generalize dcnt si = sj at hsj
  have hst : st = 1 ∨ st = 2 ∨ st = 3 := by omega
  have n1 : nthT [(0 : Int), 3, 0, 4] 1 = 3 := rfl
  have n2 : nthT [(0 : Int), 3, 0, 4] 2 = 0 := rfl
  have n3 : nthT [(0 : Int), 3, 0, 4] 3 = 4 := rfl
  have mx : max 1 sj = max sj 1 := by omega
  unfold F59 F57
  rw [rmore_eq ht, mx]
  rcases hst with rfl | rfl | rfl
  all_goals simp only [n1, n2, n3, cond_eq_ite, Bool.and_eq_true, beq_iff_eq, decide_eq_true_eq, Bool.not_eq_true', Int.reduceEq, true_and, false_and, if_false, if_true]
  all_goals (cases nu <;> (repeat' split) <;> first | rfl | (exfalso; omega) | (exfalso; simp_all; done))
theorem rdopen_eq (c : CarT) (door : Int) (block : Bool) : F37 (c, zd, door, block, true) = ((1, 0, 0, false, 0), 3) := by
  have hS : F56 zd = true := by rw [rdoor_is]; decide
  unfold F37
  simp only [hS, Bool.not_true, cond_false]
  rfl
theorem later_eq {s : MotT} (h : 0 ≤ s.2.1 ∧ s.2.1 ≤ 1000000) : F50 s = (s.1, mor s.2.1, s.2.2) := by
  obtain ⟨c, t, f⟩ := s
  simp only at h
  unfold F50 mor
  simp only [cond_eq_ite, Bool.and_eq_true, decide_eq_true_eq]
  rw [wrap_i64_of (x := t + 1) (by omega) (by omega)]
  by_cases h2 : t < 1000000
  · rw [if_pos (by omega), show min (t + 1) 1000000 = t + 1 by omega]
  · rw [if_neg (by omega), show min (t + 1) 1000000 = t by omega]
theorem rmtick_eq (n : Int) (s : MotT) (fb : FbT) (hn : 2 ≤ n ∧ n ≤ 32) (hs : MOk n s) (hf : 0 ≤ fb.1 ∧ fb.1 < n) : F34 (n, s, fb, 0) = mtick fb s := by
  have hS : F47 (n, s) = true := by rw [rmot_is n s hn, decide_eq_true_eq]; exact hs
  unfold F34 F48 mtick
  have e1 : (decide (fb.1 ≥ 0) && decide (fb.1 < n)) = true := by simp; omega
  simp only [hS, e1, Bool.not_true, Bool.or_self, cond_false]
  rw [later_eq hs.1]
  have ht := rtarget_eq s.2.2 s.2.2 s.2.2
  by_cases hc : s.1 = 0
  · have e2 : (s.1 != 0) = false := by simpa using hc
    rw [e2, if_neg (by simpa using hc)]
    simp only [cond_false]
    cases fb.2.1 <;> simp [hc]
  · have e2 : (s.1 != 0) = true := by simpa using hc
    have htg : F49 s = tgt s := by
      obtain ⟨c, t, f⟩ := s
      exact rtarget_eq c t f (by have := hs.2; simp only at this hc; omega)
    rw [e2, if_pos hc, htg]
    simp only [cond_true, cond_eq_ite, Bool.and_eq_true, beq_iff_eq, if_true]
theorem rmgo_eq (n w : Int) (fb : FbT) (hn : 2 ≤ n ∧ n ≤ 32) (hf : 0 ≤ fb.1 ∧ fb.1 < n) (hl : fb.2.1 = true) (hw : (w = 1 ∧ fb.1 + 1 < n) ∨ (w = 2 ∧ 0 < fb.1)) : F34 (n, zm, fb, w) = ((w, 0, fb.1), w, false) := by
  have hS : F47 (n, zm) = true := by rw [rmot_is n zm hn, decide_eq_true_eq]; exact ⟨by decide, Or.inl ⟨rfl, rfl⟩⟩
  have hS2 : F47 (n, w, 0, fb.1) = true := by
    rw [rmot_is n (w, 0, fb.1) hn, decide_eq_true_eq]; exact ⟨by show (0 : Int) ≤ 0 ∧ (0 : Int) ≤ 1000000; decide, by simp only; omega⟩
  unfold F34 F48
  have e1 : (decide (fb.1 ≥ 0) && decide (fb.1 < n)) = true := by simp; omega
  have e2 : (w != 0) = true := by rw [bne_iff_ne]; omega
  simp only [hS, hS2, e1, e2, hl, Bool.not_true, Bool.or_self, cond_false, Bool.and_self, cond_true]
  rfl
theorem rpmove_eq (b : BldT) (hl : b.cars.length ≤ maxLen) (z : Int × Int × Int) : F55 (b, z) = F68 (b, z) := by
  unfold F55 F68
  simp only [valid_eq b hl, rvalid_eq b hl]
theorem rend_eq (b : BldT) (car : Int) (q : CarS × Int) : F35 (b, car, q.1, q.2) = ((nwatch (cT_ (cfgOf b car)) (cS_ (cfgOf b car)) q).1, (nwatch (cT_ (cfgOf b car)) (cS_ (cfgOf b car)) q).2, 0) := by
  unfold F35 F51 F52 nwatch
  simp only [cond_eq_ite, Bool.or_eq_true, Bool.and_eq_true, beq_iff_eq, decide_eq_true_eq]
  by_cases h : nlate (cT_ (cfgOf b car)) (cS_ (cfgOf b car)) q.1
  · have h' : ((q.1.2.1.1 = 1 ∨ q.1.2.1.1 = 3) ∧ q.1.2.1.2.1 > (nthT b.2.2.2.2.2.2.2 car).2.2.2.2.2.1) ∨ q.1.2.2.1.2.1 > (nthT b.2.2.2.2.2.2.2 car).2.2.2.2.1 := h
    rw [if_pos h', if_pos h]
  · have h' : ¬ (((q.1.2.1.1 = 1 ∨ q.1.2.1.1 = 3) ∧ q.1.2.1.2.1 > (nthT b.2.2.2.2.2.2.2 car).2.2.2.2.2.1) ∨ q.1.2.2.1.2.1 > (nthT b.2.2.2.2.2.2.2 car).2.2.2.2.1) := h
    rw [if_neg h', if_neg h]
theorem fin_of {T S : Int} {q q' : CarS × Int} (h : q = q') : ((nwatch T S q).1, (nwatch T S q).2, (0 : Int)) = ((nwatch T S q').1, (nwatch T S q').2, (0 : Int)) := by rw [h]
section
variable {b : BldT} {car : Int} {n f : Nat} {s : CarS} {fb : FbT} {hall : Int × Int}
theorem rdec_eq (hB : IsB b) (hlen : b.cars.length ≤ maxLen) (hn : b.1 = n) (hf : f < n) (ef : fb.1 = f) (hl : fb.2.1 = true) (h : NS n s) (hz : s.2.1 = zd) (hm : s.2.2.1 = zm) (wu : W hall.1) (wd : W hall.2) (k : CNP n f (nC b s f hall) (nN b s f hall) (nP b car s f)) :
    F36 (b, car, s, fb, hall) = ((nwatch (cT_ (cfgOf b car)) (cS_ (cfgOf b car)) (ndec (nC b s f hall) (nN b s f hall) (nP b car s f) f s)).1, (nwatch (cT_ (cfgOf b car)) (cS_ (cfgOf b car)) (ndec (nC b s f hall) (nN b s f hall) (nP b car s f) f s)).2, 0) := by
  have hfl := hB.fl
  obtain ⟨sw, dr, mo, c, sh, id, fa⟩ := s
  have hid := h.id
  have wc := h.wc
  simp only at hz hm hid wc
  subst hz hm
  have hgo : ∀ w : Int, (w = 1 ∧ f + 1 < n) ∨ (w = 2 ∧ 0 < f) → F34 (b.1, zm, fb, w) = ((w, 0, (f : Int)), w, false) := fun w hw => by
    rw [rmgo_eq b.1 w fb hfl (by omega) hl (by omega), ef]
  have hch := both_all b.1 sw.1 sw.2 (f : Int) c hall.1 hall.2 wc wu wd
  have h1 : F53 (b.1, sw, (f : Int), c, hall) = nC b (sw, zd, zm, c, sh, id, fa) f hall := hch.1.symm
  have h2 : F54 (b.1, sw, (f : Int), c, hall) = nN b (sw, zd, zm, c, sh, id, fa) f hall := hch.2.symm
  have h3 : F55 (b, car, id, (f : Int)) = nP b car (sw, zd, zm, c, sh, id, fa) f := rpmove_eq b hlen (car, id, (f : Int))
  unfold F36 K36_1 K36_2 K36_3 K36_4
  simp only [ef]
  rw [h1, h2, h3, rdopen_eq, wrap_i64_of (x := id + 1) (by omega) (by omega)]
  generalize nC b (sw, zd, zm, c, sh, id, fa) f hall = C at k ⊢
  generalize nN b (sw, zd, zm, c, sh, id, fa) f hall = N at k ⊢
  generalize nP b car (sw, zd, zm, c, sh, id, fa) f = p at k ⊢
  simp only [cond_eq_ite, beq_iff_eq, bne_iff_ne]
  by_cases c3 : C.1 = 3
  · rw [if_pos c3]
    refine (rend_eq b car (_, _)).trans (fin_of ?_)
    unfold ndec
    rw [if_pos c3]
  · rw [if_neg c3]
    by_cases c1 : C.1 = 1
    · rw [if_pos c1, if_pos c1, c1, hgo 1 (Or.inl ⟨rfl, k.up c1⟩)]
      refine (rend_eq b car (_, _)).trans (fin_of ?_)
      unfold ndec
      rw [if_neg c3, if_pos (Or.inl c1), c1]
    · rw [if_neg c1]
      by_cases c2 : C.1 = 2
      · rw [if_pos c2, c2, hgo 2 (Or.inr ⟨rfl, k.dn c2⟩)]
        refine (rend_eq b car (_, _)).trans (fin_of ?_)
        unfold ndec
        rw [if_neg c3, if_pos (Or.inr c2), c2]
      · rw [if_neg c2]
        by_cases hp : p = 0
        · rw [if_neg (by simpa using hp)]
          refine (rend_eq b car (_, _)).trans (fin_of ?_)
          unfold ndec
          rw [if_neg c3, if_neg (by omega), if_neg (by simpa using hp)]
          rfl
        · rw [if_pos hp, hgo p (by rcases k.p with x | x | x <;> omega)]
          refine (rend_eq b car (_, _)).trans (fin_of ?_)
          unfold ndec
          rw [if_neg c3, if_neg (by omega), if_pos hp]
end
end Go.Proofs.YtngbcgnihbjfnaaGreatDoor.Sp
end

section
/- The control of a modernised car: the reference is the program (own work). -/
namespace Go.Proofs.YtngbcgnihbjfnaaGreatDoor.Sp
open Go Sy
set_option linter.unusedVariables false
set_option linter.unusedSimpArgs false
set_option maxRecDepth 10000
theorem u64_id {x : Int} (h : 0 ≤ x ∧ x ≤ 4294967296) : IntKind.u64.wrap x = x := wrap_u64_of (by omega) (by omega)
theorem risst_eq (b : BldT) (s : CarS) (hl : b.cars.length ≤ maxLen) (wc : W s.2.2.2.1) : F46 (b, s) = F39 (b, s) := by
  by_cases hB : IsB b
  · have hfl := hB.fl
    obtain ⟨n, hn⟩ := Int.eq_ofNat_of_zero_le (show 0 ≤ b.1 by omega)
    have e : F39 (b, s) = bif (s.2.2.2.2.2.2 && !(zz s)) then false else isB2 n s := by
      unfold F39
      simp only
      rw [valid_of hB hl, door_is, mot_is _ _ hfl, hn]
      unfold isB2
      rw [← z5_iff, ← z3_iff]
      rfl
    have wc' : 0 ≤ s.2.2.2.1 ∧ s.2.2.2.1 < 4294967296 := wc
    have e2 : F46 (b, s) = bif s.2.2.2.2.2.2 then zz s else isB2 n s := by
      unfold F46
      simp only
      rw [rvalid_of hB hl, rdoor_is, rmot_is _ _ hfl, u64_id (x := b.1) (by omega), u64_id (x := s.2.2.2.1) (by omega), hn]
      have hmin : min ((n : Int)).toNat IntKind.u64.bits = min ((n : Int)).toNat IntKind.u32.bits := by
        show min ((n : Int)).toNat 64 = min ((n : Int)).toNat 32
        omega
      rw [hmin]
      unfold isB2
      rw [← z5_iff, ← z3_iff]
      rfl
    rw [e, e2]
    cases hfa : s.2.2.2.2.2.2 with
    | false => rfl
    | true =>
      cases hz : zz s with
      | true =>
        rw [(zz_iff s).1 hz]
        exact (isB2_zf n).symm
      | false => rfl
  · have hv : F60 b ≠ 0 := fun e => hB (valid_b hl e)
    have e1 : (F60 b != 0) = true := by rw [bne_iff_ne]; exact hv
    have e2 : (F69 b != 0) = true := by rw [rvalid_eq b hl, ← valid_eq b hl]; exact e1
    unfold F46 F39
    simp only
    rw [e1, e2]
    rfl
theorem rknown_eq (b : BldT) (car : Int) (s : CarS) (hl : b.cars.length ≤ maxLen) (wc : W s.2.2.2.1) : F32 (b, car, s) = F22 (b, car, s) := by
  unfold F32 F22
  simp only
  rw [risst_eq b s hl wc]
section
variable {b : BldT} {car : Int} {n : Nat} {s : CarS} {fb : FbT} {hall : Int × Int} {press : Int}
theorem rstep_ok (hB : IsB b) (hl : b.cars.length ≤ maxLen) (hn : b.1 = n) (hc : 0 ≤ car ∧ car < (b.2.2.2.2.2.2.2.length : Int)) (h : NS n s) (his : F39 (b, s) = true) (hfb : F23 (b, fb) = true) (wp : W press) (wu : W hall.1) (wd : W hall.2) :
    F18 (b, car, s, fb, press, hall) = ((ntick b car s fb press hall).1, (ntick b car s fb press hall).2, 0) := by
  have hfl := hB.fl
  have hf := isfb_iff.1 hfb
  obtain ⟨f, ef⟩ := Int.eq_ofNat_of_zero_le hf.1
  have hfn : f < n := by omega
  have hic : F32 (b, car, s) = true := by
    rw [rknown_eq b car s hl h.wc]
    unfold F22
    simp only [his, Bool.true_and, Bool.and_eq_true, decide_eq_true_eq]
    exact hc
  have hfb' : F33 (b, fb) = true := hfb
  have hp := npress_NS (n := n) (f := fb.1) (p := press) (s := s) (by omega) wp h
  rw [← hn] at hp
  have hk := (cnp_of (f := f) (s := npress b.1 fb.1 s press) hB hl hn hc hfn hp wu wd).1
  have hmt := rmtick_eq b.1 s.2.2.1 fb hfl (by rw [hn]; exact h.mo) (by omega)
  have u1 := u64_id (x := b.1) (by omega)
  have u2 := u64_id (x := fb.1) (by omega)
  unfold F18
  simp only [hic, hfb', Bool.not_true, Bool.or_self, cond_false, h.fa]
  have hnt : ∀ q, ncore (cD_ (cfgOf b car)) (cH_ (cfgOf b car)) (nC b (npress b.1 fb.1 s press) fb.1 hall) (nN b (npress b.1 fb.1 s press) fb.1 hall) (nP b car (npress b.1 fb.1 s press) fb.1) fb (npress b.1 fb.1 s press) = q →
      ((nwatch (cT_ (cfgOf b car)) (cS_ (cfgOf b car)) q).1, (nwatch (cT_ (cfgOf b car)) (cS_ (cfgOf b car)) q).2, (0 : Int)) = ((ntick b car s fb press hall).1, (ntick b car s fb press hall).2, 0) := by
    intro q hq
    unfold ntick
    rw [hq]
  by_cases h0 : s.2.1.1 = 0
  · have hz : s.2.1 = zd := h.dz (by simpa using h0)
    have e0 : (s.2.1.1 == (0 : Int)) = true := by simpa using h0
    have e1 : (s.2.1.1 != (0 : Int)) = false := by simpa using h0
    have hpz : (npress b.1 fb.1 s press).2.1 = zd := hz
    have hcz : npress b.1 fb.1 s press = (s.1, s.2.1, s.2.2.1, or32 s.2.2.2.1 (and32 press (allm b.1)), s.2.2.2.2) := by
      unfold npress; rw [if_pos h0]
    have hcore0 : ¬ (npress b.1 fb.1 s press).2.1.1 ≠ 0 := by rw [hpz]; simp
    simp only [e0, e1, Bool.true_and, cond_false, cond_true]
    rw [z3_iff]
    unfold K18_19 K18_20 K18_22 K18_23 K18_24 K18_30 K18_31 K18_32
    rw [u1, u2, hmt]
    have hdt := rdtick_eq (cfgOf b car) (1, 0, 0, false, 0) fb.2.2.1 fb.2.2.2 (by decide) (by decide) (by decide) (by decide)
    rw [hdt]
    have hpm : NS n (s.1, s.2.1, zm, or32 s.2.2.2.1 (and32 press (allm b.1)), s.2.2.2.2) := by
      have := hp.moz
      rw [hcz] at this
      exact this
    have hk' : CNP n f (nC b (s.1, s.2.1, zm, or32 s.2.2.2.1 (and32 press (allm b.1)), s.2.2.2.2) f hall) (nN b (s.1, s.2.1, zm, or32 s.2.2.2.1 (and32 press (allm b.1)), s.2.2.2.2) f hall) (nP b car (s.1, s.2.1, zm, or32 s.2.2.2.1 (and32 press (allm b.1)), s.2.2.2.2) f) := by
      have := hk
      rw [hcz] at this
      exact this
    have hcn : ¬ s.2.1.1 ≠ 0 := by simpa using h0
    by_cases hc1 : s.2.2.1 = zm ∧ fb.2.1 = true
    · have hlv := hc1.2
      have z0 : ((!decide (s.2.2.1 = zm)) || !fb.2.1) = false := by simp [hc1]
      rw [z0, cond_false]
      have hflr : ncore (cD_ (cfgOf b car)) (cH_ (cfgOf b car)) (nC b (npress b.1 fb.1 s press) fb.1 hall) (nN b (npress b.1 fb.1 s press) fb.1 hall) (nP b car (npress b.1 fb.1 s press) fb.1) fb (npress b.1 fb.1 s press) = nflr (cD_ (cfgOf b car)) (cH_ (cfgOf b car)) (nC b (npress b.1 fb.1 s press) fb.1 hall) (nN b (npress b.1 fb.1 s press) fb.1 hall) (nP b car (npress b.1 fb.1 s press) fb.1) fb (s.1, s.2.1, zm, or32 s.2.2.2.1 (and32 press (allm b.1)), s.2.2.2.2) := by
        rw [hcz]
        unfold ncore
        rw [if_neg hcn, if_neg (by simp only [hc1.1]; decide), if_pos hlv]
      rw [hc1.1]
      by_cases hd : fb.2.2.1 = 2
      · have z1 : (fb.2.2.1 != (2 : Int)) = false := by simpa using hd
        rw [z1, cond_false]
        refine (rdec_eq (s := (s.1, s.2.1, zm, or32 s.2.2.2.1 (and32 press (allm b.1)), s.2.2.2.2)) hB hl hn hfn ef hlv hpm hz rfl wu wd hk').trans (hnt _ ?_)
        rw [hflr]
        unfold nflr
        rw [if_neg (by simpa using hd), ← ef, hcz]
      · have z1 : (fb.2.2.1 != (2 : Int)) = true := by simpa using hd
        rw [z1, cond_true, show ((1 : Int) == 0) = false from rfl, cond_false]
        have hq : nflr (cD_ (cfgOf b car)) (cH_ (cfgOf b car)) (nC b (npress b.1 fb.1 s press) fb.1 hall) (nN b (npress b.1 fb.1 s press) fb.1 hall) (nP b car (npress b.1 fb.1 s press) fb.1) fb (s.1, s.2.1, zm, or32 s.2.2.2.1 (and32 press (allm b.1)), s.2.2.2.2) = ncyc (cD_ (cfgOf b car)) (cH_ (cfgOf b car)) fb ((s.1.1, mark1 s.1.2), (1, 0, 0, false, 0), zm, or32 s.2.2.2.1 (and32 press (allm b.1)), 0, s.2.2.2.2.2) := by
          unfold nflr
          rw [if_pos hd]
        rw [hq] at hflr
        unfold ncyc at hflr
        simp only at hflr
        rw [ob_eq h.so]
        generalize dtick (cD_ (cfgOf b car)) (cH_ (cfgOf b car)) (1, 0, 0, false, 0) fb.2.2.1 fb.2.2.2 = q at hflr ⊢
        by_cases h2 : q.1.1 = 2
        · have z2 : (q.1.1 == (2 : Int)) = true := by simpa using h2
          have z3 : (q.1.1 == (0 : Int)) = false := by rw [h2]; rfl
          rw [z2, z3, cond_true, cond_false]
          refine (rend_eq b car (_, _)).trans (hnt _ ?_)
          rw [hflr, if_pos h2, if_neg (by omega)]
          rfl
        · have z2 : (q.1.1 == (2 : Int)) = false := by simpa using h2
          rw [z2, cond_false]
          by_cases h3 : q.1.1 = 0
          · have z3 : (q.1.1 == (0 : Int)) = true := by simpa using h3
            rw [z3, cond_true]
            refine (rend_eq b car (_, _)).trans (hnt _ ?_)
            rw [hflr, if_neg h2, if_pos h3]
          · have z3 : (q.1.1 == (0 : Int)) = false := by simpa using h3
            rw [z3, cond_false]
            refine (rend_eq b car (_, _)).trans (hnt _ ?_)
            rw [hflr, if_neg h2, if_neg h3]
    · have z0 : ((!decide (s.2.2.1 = zm)) || !fb.2.1) = true := by
        rw [Bool.or_eq_true, Bool.not_eq_true', Bool.not_eq_true', decide_eq_false_iff_not]
        by_cases z : s.2.2.1 = zm
        · right
          cases hlv : fb.2.1 with
          | true => exact absurd ⟨z, hlv⟩ hc1
          | false => rfl
        · exact Or.inl z
      rw [z0, cond_true]
      by_cases harr : fb.2.1 = true ∧ (s.2.2.1.1 = 0 ∨ fb.1 = tgt s.2.2.1)
      · have hlv := harr.1
        have hmv : (mtick fb s.2.2.1).1 = zm ∧ ((!(mtick fb s.2.2.1).2.2) && (!((s.2.2.1.1 == (0 : Int)) && fb.2.1))) = false := by
          unfold mtick
          by_cases hc0 : s.2.2.1.1 = 0
          · rw [if_neg (by simpa using hc0), if_pos hlv]
            refine ⟨rfl, ?_⟩
            simp [hc0, hlv]
          · rw [if_pos hc0, if_pos ⟨hlv, harr.2.resolve_left hc0⟩]
            exact ⟨rfl, rfl⟩
        rw [hmv.1, hmv.2, cond_false]
        have hflr : ncore (cD_ (cfgOf b car)) (cH_ (cfgOf b car)) (nC b (npress b.1 fb.1 s press) fb.1 hall) (nN b (npress b.1 fb.1 s press) fb.1 hall) (nP b car (npress b.1 fb.1 s press) fb.1) fb (npress b.1 fb.1 s press) = nflr (cD_ (cfgOf b car)) (cH_ (cfgOf b car)) (nC b (npress b.1 fb.1 s press) fb.1 hall) (nN b (npress b.1 fb.1 s press) fb.1 hall) (nP b car (npress b.1 fb.1 s press) fb.1) fb (s.1, s.2.1, zm, or32 s.2.2.2.1 (and32 press (allm b.1)), s.2.2.2.2) := by
          rw [hcz]
          unfold ncore
          rw [if_neg hcn]
          by_cases hc0 : s.2.2.1.1 = 0
          · rw [if_neg (by simpa using hc0), if_pos hlv]
          · rw [if_pos hc0, if_pos ⟨hlv, harr.2.resolve_left hc0⟩]
        by_cases hd : fb.2.2.1 = 2
        · have z1 : (fb.2.2.1 != (2 : Int)) = false := by simpa using hd
          rw [z1, cond_false]
          refine (rdec_eq (s := (s.1, s.2.1, zm, or32 s.2.2.2.1 (and32 press (allm b.1)), s.2.2.2.2)) hB hl hn hfn ef hlv hpm hz rfl wu wd hk').trans (hnt _ ?_)
          rw [hflr]
          unfold nflr
          rw [if_neg (by simpa using hd), ← ef, hcz]
        · have z1 : (fb.2.2.1 != (2 : Int)) = true := by simpa using hd
          rw [z1, cond_true, show ((1 : Int) == 0) = false from rfl, cond_false]
          have hq : nflr (cD_ (cfgOf b car)) (cH_ (cfgOf b car)) (nC b (npress b.1 fb.1 s press) fb.1 hall) (nN b (npress b.1 fb.1 s press) fb.1 hall) (nP b car (npress b.1 fb.1 s press) fb.1) fb (s.1, s.2.1, zm, or32 s.2.2.2.1 (and32 press (allm b.1)), s.2.2.2.2) = ncyc (cD_ (cfgOf b car)) (cH_ (cfgOf b car)) fb ((s.1.1, mark1 s.1.2), (1, 0, 0, false, 0), zm, or32 s.2.2.2.1 (and32 press (allm b.1)), 0, s.2.2.2.2.2) := by
            unfold nflr
            rw [if_pos hd]
          rw [hq] at hflr
          unfold ncyc at hflr
          simp only at hflr
          rw [ob_eq h.so]
          generalize dtick (cD_ (cfgOf b car)) (cH_ (cfgOf b car)) (1, 0, 0, false, 0) fb.2.2.1 fb.2.2.2 = q at hflr ⊢
          by_cases h2 : q.1.1 = 2
          · have z2 : (q.1.1 == (2 : Int)) = true := by simpa using h2
            have z3 : (q.1.1 == (0 : Int)) = false := by rw [h2]; rfl
            rw [z2, z3, cond_true, cond_false]
            refine (rend_eq b car (_, _)).trans (hnt _ ?_)
            rw [hflr, if_pos h2, if_neg (by omega)]
            rfl
          · have z2 : (q.1.1 == (2 : Int)) = false := by simpa using h2
            rw [z2, cond_false]
            by_cases h3 : q.1.1 = 0
            · have z3 : (q.1.1 == (0 : Int)) = true := by simpa using h3
              rw [z3, cond_true]
              refine (rend_eq b car (_, _)).trans (hnt _ ?_)
              rw [hflr, if_neg h2, if_pos h3]
            · have z3 : (q.1.1 == (0 : Int)) = false := by simpa using h3
              rw [z3, cond_false]
              refine (rend_eq b car (_, _)).trans (hnt _ ?_)
              rw [hflr, if_neg h2, if_neg h3]
      · have hmv : ((!(mtick fb s.2.2.1).2.2) && (!((s.2.2.1.1 == (0 : Int)) && fb.2.1))) = true ∧ (mtick fb s.2.2.1).1 = (s.2.2.1.1, mor s.2.2.1.2.1, s.2.2.1.2.2) ∧ (mtick fb s.2.2.1).2.1 = s.2.2.1.1 := by
          unfold mtick
          by_cases hc0 : s.2.2.1.1 = 0
          · have hlv : fb.2.1 = false := by
              cases hlv : fb.2.1 with
              | true => exact absurd ⟨hlv, Or.inl hc0⟩ harr
              | false => rfl
            rw [if_neg (by simpa using hc0), if_neg (by rw [hlv]; simp), hlv]
            exact ⟨by simp, rfl, rfl⟩
          · have hng : ¬ (fb.2.1 = true ∧ fb.1 = tgt s.2.2.1) := fun z => harr ⟨z.1, Or.inr z.2⟩
            have z4 : (s.2.2.1.1 == (0 : Int)) = false := by simpa using hc0
            rw [if_pos hc0, if_neg hng, z4]
            exact ⟨rfl, rfl, rfl⟩
        rw [hmv.1, cond_true, hmv.2.1, hmv.2.2]
        have hcore : ncore (cD_ (cfgOf b car)) (cH_ (cfgOf b car)) (nC b (npress b.1 fb.1 s press) fb.1 hall) (nN b (npress b.1 fb.1 s press) fb.1 hall) (nP b car (npress b.1 fb.1 s press) fb.1) fb (npress b.1 fb.1 s press) = ((s.1, s.2.1, (s.2.2.1.1, mor s.2.2.1.2.1, s.2.2.1.2.2), or32 s.2.2.2.1 (and32 press (allm b.1)), s.2.2.2.2.1, (if s.2.2.1.1 = 0 ∨ s.1.1 ≠ 0 then 0 else s.2.2.2.2.2.1), s.2.2.2.2.2.2), s.2.2.1.1) := by
          rw [hcz]
          unfold ncore
          rw [if_neg hcn]
          by_cases hc0 : s.2.2.1.1 = 0
          · have hlv : ¬ fb.2.1 = true := fun z => harr ⟨z, Or.inl hc0⟩
            rw [if_neg (by simpa using hc0), if_neg hlv, if_pos (Or.inl hc0)]
            simp only [hc0]
          · have hng : ¬ (fb.2.1 = true ∧ fb.1 = tgt s.2.2.1) := fun z => harr ⟨z.1, Or.inr z.2⟩
            rw [if_pos hc0, if_neg hng]
            simp only [hc0, false_or]
        by_cases hi : s.2.2.1.1 = 0 ∨ s.1.1 ≠ 0
        · have z5 : ((s.2.2.1.1 == (0 : Int)) || (s.1.1 != (0 : Int))) = true := by simpa using hi
          rw [z5, cond_true]
          refine (rend_eq b car (_, _)).trans (hnt _ ?_)
          rw [hcore, if_pos hi]
        · have z5 : ((s.2.2.1.1 == (0 : Int)) || (s.1.1 != (0 : Int))) = false := by
            rw [Bool.or_eq_false_iff]; simp; omega
          rw [z5, cond_false]
          refine (rend_eq b car (_, _)).trans (hnt _ ?_)
          rw [hcore, if_neg hi]
  · have e0 : (s.2.1.1 == (0 : Int)) = false := by simpa using h0
    have e1 : (s.2.1.1 != (0 : Int)) = true := by simpa using h0
    have hd := dok_of h.dr h0
    have hdt := rdtick_eq (cfgOf b car) s.2.1 fb.2.2.1 fb.2.2.2 hd.1 hd.2.1 hd.2.2.1 hd.2.2.2
    have hcz : npress b.1 fb.1 s press = (s.1, s.2.1, s.2.2.1, or32 s.2.2.2.1 (nand32 (and32 press (allm b.1)) (shl32 1 fb.1)), s.2.2.2.2) := by
      unfold npress; rw [if_neg h0]
    simp only [e0, e1, Bool.false_and, cond_false, cond_true]
    unfold K18_15 K18_16 K18_17 K18_18
    rw [u1, u2, hdt]
    have hq : ncore (cD_ (cfgOf b car)) (cH_ (cfgOf b car)) (nC b (npress b.1 fb.1 s press) fb.1 hall) (nN b (npress b.1 fb.1 s press) fb.1 hall) (nP b car (npress b.1 fb.1 s press) fb.1) fb (npress b.1 fb.1 s press) = ncyc (cD_ (cfgOf b car)) (cH_ (cfgOf b car)) fb (npress b.1 fb.1 s press) := by
      unfold ncore
      rw [if_pos (by rw [hcz]; exact h0)]
    unfold ncyc at hq
    rw [hcz] at hq
    simp only at hq
    rw [hcz] at hnt
    generalize dtick (cD_ (cfgOf b car)) (cH_ (cfgOf b car)) s.2.1 fb.2.2.1 fb.2.2.2 = q at hq ⊢
    by_cases h2 : q.1.1 = 2
    · have z2 : (q.1.1 == (2 : Int)) = true := by simpa using h2
      have z3 : (q.1.1 == (0 : Int)) = false := by rw [h2]; rfl
      rw [z2, z3, cond_true, cond_false]
      refine (rend_eq b car (_, _)).trans (hnt _ ?_)
      rw [hq, if_pos h2, if_neg (by omega)]
      rfl
    · have z2 : (q.1.1 == (2 : Int)) = false := by simpa using h2
      by_cases h3 : q.1.1 = 0
      · have z3 : (q.1.1 == (0 : Int)) = true := by simpa using h3
        rw [z2, z3, cond_true, cond_false]
        refine (rend_eq b car (_, _)).trans (hnt _ ?_)
        rw [hq, if_neg h2, if_pos h3]
      · have z3 : (q.1.1 == (0 : Int)) = false := by simpa using h3
        rw [z2, z3, cond_false]
        refine (rend_eq b car (_, _)).trans (hnt _ ?_)
        rw [hq, if_neg h2, if_neg h3]
end
end Go.Proofs.YtngbcgnihbjfnaaGreatDoor.Sp
end

section
/- The plain tick of a drive (own work). -/
namespace Go.Proofs.YtngbcgnihbjfnaaGreatDoor.Sp
open Go Sy
set_option linter.unusedVariables false
set_option linter.unusedSimpArgs false
def IsSt (fl : Int) (s : RigT) : Prop :=
  (2 ≤ fl ∧ fl ≤ 32) ∧ (0 ≤ s.1 ∧ s.1 ≤ fl - 1) ∧ (0 ≤ s.2.1 ∧ s.2.1 ≤ fl - 1) ∧ (-1 ≤ s.2.1 - s.1 ∧ s.2.1 - s.1 ≤ 1) ∧
  ((s.1 = s.2.1 ∧ s.2.2.1 = 0) ∨ (s.1 ≠ s.2.1 ∧ 1 ≤ s.2.2.1 ∧ s.2.2.1 ≤ 10000 ∧ s.2.2.2.1 = 2)) ∧
  ((s.2.2.2.1 = 0 ∧ (s.2.2.2.2.1 = 1 ∨ s.2.2.2.2.1 = 2) ∧ 1 ≤ s.2.2.2.2.2 ∧ s.2.2.2.2.2 ≤ 10000) ∨ ((s.2.2.2.1 = 1 ∨ s.2.2.2.1 = 2) ∧ s.2.2.2.2.1 = 0 ∧ s.2.2.2.2.2 = 0))
instance (fl : Int) (s : RigT) : Decidable (IsSt fl s) := by unfold IsSt; infer_instance
def moved (s : RigT) : RigT := if s.2.2.1 = 0 then (s.2.1, s.2) else s
def aimOf (s : RigT) (cmd : Int) : Int := if cmd = 3 then 1 else if cmd = 4 ∨ cmd = 5 then 2 else s.2.2.2.2.1
def doorOf (s : RigT) (to time : Int) : RigT :=
  if to = 0 ∨ s.2.2.2.1 = to then s
  else
    let n := if s.2.2.2.1 = 0 ∧ s.2.2.2.2.1 = to then s.2.2.2.2.2 - 1 else time - 1
    if n = 0 then (s.1, s.2.1, s.2.2.1, to, 0, 0) else (s.1, s.2.1, s.2.2.1, 0, to, n)
def nextOf (s : RigT) (cmd : Int) : Int := if cmd = 1 then s.1 + 1 else if cmd = 2 then s.1 - 1 else s.1
def clampT (t : Int) : Int := min (max t 1) 10000
def stp (fl : Int) (s : RigT) (cmd time : Int) : RigT :=
  if ¬ IsSt fl s then (0, 0, 0, 2, 0, 0)
  else if s.2.2.1 ≠ 0 then moved (s.1, s.2.1, s.2.2.1 - 1, s.2.2.2)
  else if nextOf s cmd ≠ s.1 ∧ 0 ≤ nextOf s cmd ∧ nextOf s cmd ≤ fl - 1 ∧ s.2.2.2.1 = 2 then moved (s.1, nextOf s cmd, clampT time - 1, s.2.2.2)
  else doorOf s (aimOf s cmd) (clampT time)
def RO (f tk : Int) (r : RigT) : Prop := (r = (f, f, 0, 1, 0, 0) ∧ tk = 0) ∨ (r = (f, f, 0, 0, 1, tk) ∧ 1 ≤ tk ∧ tk ≤ 10000)
def RC (f tk : Int) (r : RigT) : Prop := (r = (f, f, 0, 2, 0, 0) ∧ tk = 0) ∨ (r = (f, f, 0, 0, 2, tk) ∧ 1 ≤ tk ∧ tk ≤ 10000)
section
variable {n f tk t c : Int} {r : RigT}
theorem isSt_stand (hn : 2 ≤ n ∧ n ≤ 32) (hf : 0 ≤ f ∧ f < n) {d a k : Int} (h : (d = 0 ∧ (a = 1 ∨ a = 2) ∧ 1 ≤ k ∧ k ≤ 10000) ∨ ((d = 1 ∨ d = 2) ∧ a = 0 ∧ k = 0)) : IsSt n (f, f, 0, d, a, k) := by
  simp only [IsSt, and_true, true_and, or_true, true_or, or_false, false_or, not_true_eq_false, and_false, false_and, not_false_eq_true, ne_eq, if_true, if_false, Bool.false_eq_true, Int.reduceEq, Int.reduceNeg, Int.reduceLE, Int.reduceLT]
  omega
theorem stp_stand (hn : 2 ≤ n ∧ n ≤ 32) (hf : 0 ≤ f ∧ f < n) {d a k : Int} (h : (d = 0 ∧ (a = 1 ∨ a = 2) ∧ 1 ≤ k ∧ k ≤ 10000) ∨ ((d = 1 ∨ d = 2) ∧ a = 0 ∧ k = 0)) (hc : c ≠ 1 ∧ c ≠ 2) (ht : 1 ≤ t ∧ t ≤ 10000) :
    stp n (f, f, 0, d, a, k) c t = doorOf (f, f, 0, d, a, k) (aimOf (f, f, 0, d, a, k) c) t := by
  have hi := isSt_stand hn hf h
  have e1 : nextOf (f, f, 0, d, a, k) c = f := by unfold nextOf; rw [if_neg hc.1, if_neg hc.2]
  have e2 : clampT t = t := by unfold clampT; omega
  unfold stp
  rw [if_neg (by simpa using hi), if_neg (by simp), e1, if_neg (by simp), e2]
theorem ro_open (hn : 2 ≤ n ∧ n ≤ 32) (hf : 0 ≤ f ∧ f < n) (h : RO f tk r) (ht : 1 ≤ t ∧ t ≤ 10000) : RO f (max (tk - 1) 0) (stp n r 3 t) := by
  rcases h with ⟨rfl, rfl⟩ | ⟨rfl, h1, h2⟩
  · rw [stp_stand hn hf (by omega) (by omega) ht]
    exact Or.inl ⟨rfl, rfl⟩
  · rw [stp_stand hn hf (by omega) (by omega) ht]
    show RO f _ (doorOf (f, f, 0, 0, 1, tk) 1 t)
    unfold doorOf
    simp only [Int.reduceEq, or_self, if_false, and_self, if_true]
    split
    · exact Or.inl ⟨rfl, by omega⟩
    · exact Or.inr ⟨by rw [show max (tk - 1) 0 = tk - 1 by omega], by omega, by omega⟩
theorem rc_close (hn : 2 ≤ n ∧ n ≤ 32) (hf : 0 ≤ f ∧ f < n) (h : RC f tk r) (hc : c = 4 ∨ c = 5) (ht : 1 ≤ t ∧ t ≤ 10000) : RC f (max (tk - 1) 0) (stp n r c t) := by
  have ha : ∀ z : RigT, aimOf z c = 2 := fun z => by unfold aimOf; rw [if_neg (by omega), if_pos hc]
  rcases h with ⟨rfl, rfl⟩ | ⟨rfl, h1, h2⟩
  · rw [stp_stand hn hf (by omega) (by omega) ht, ha]
    exact Or.inl ⟨rfl, rfl⟩
  · rw [stp_stand hn hf (by omega) (by omega) ht, ha]
    unfold doorOf
    simp only [Int.reduceEq, or_self, if_false, and_self, if_true]
    split
    · exact Or.inl ⟨rfl, by omega⟩
    · exact Or.inr ⟨by rw [show max (tk - 1) 0 = tk - 1 by omega], by omega, by omega⟩
theorem ro_close (hn : 2 ≤ n ∧ n ≤ 32) (hf : 0 ≤ f ∧ f < n) (h : RO f tk r) (hc : c = 4 ∨ c = 5) (ht : 1 ≤ t ∧ t ≤ 10000) : RC f (t - 1) (stp n r c t) := by
  have ha : ∀ z : RigT, aimOf z c = 2 := fun z => by unfold aimOf; rw [if_neg (by omega), if_pos hc]
  rcases h with ⟨rfl, rfl⟩ | ⟨rfl, h1, h2⟩
  all_goals
    rw [stp_stand hn hf (by omega) (by omega) ht, ha]
    unfold doorOf
    simp only [Int.reduceEq, or_self, if_false, and_self, and_false, false_and]
    split
    · exact Or.inl ⟨rfl, by omega⟩
    · exact Or.inr ⟨rfl, by omega, by omega⟩
theorem rc_open (hn : 2 ≤ n ∧ n ≤ 32) (hf : 0 ≤ f ∧ f < n) (h : RC f tk r) (ht : 1 ≤ t ∧ t ≤ 10000) : RO f (t - 1) (stp n r 3 t) := by
  have ha : ∀ z : RigT, aimOf z 3 = 1 := fun z => rfl
  rcases h with ⟨rfl, rfl⟩ | ⟨rfl, h1, h2⟩
  all_goals
    rw [stp_stand hn hf (by omega) (by omega) ht, ha]
    unfold doorOf
    simp only [Int.reduceEq, or_self, if_false, and_self, and_false, false_and]
    split
    · exact Or.inl ⟨rfl, by omega⟩
    · exact Or.inr ⟨rfl, by omega, by omega⟩
theorem stp_none (hn : 2 ≤ n ∧ n ≤ 32) (hf : 0 ≤ f ∧ f < n) {d : Int} (hd : d = 1 ∨ d = 2) (ht : 1 ≤ t ∧ t ≤ 10000) : stp n (f, f, 0, d, 0, 0) 0 t = (f, f, 0, d, 0, 0) := by
  rw [stp_stand hn hf (by omega) (by omega) ht]
  show doorOf _ 0 t = _
  unfold doorOf
  simp
theorem RO.door (h : RO f tk r) : (r.2.2.2.1 = 1 ∧ tk = 0) ∨ (r.2.2.2.1 = 0 ∧ 1 ≤ tk) := by
  rcases h with ⟨rfl, rfl⟩ | ⟨rfl, h1, h2⟩
  · exact Or.inl ⟨rfl, rfl⟩
  · exact Or.inr ⟨rfl, h1⟩
theorem RC.door (h : RC f tk r) : (r.2.2.2.1 = 2 ∧ tk = 0) ∨ (r.2.2.2.1 = 0 ∧ 1 ≤ tk) := by
  rcases h with ⟨rfl, rfl⟩ | ⟨rfl, h1, h2⟩
  · exact Or.inl ⟨rfl, rfl⟩
  · exact Or.inr ⟨rfl, h1⟩
theorem RO.at (h : RO f tk r) : r.1 = f ∧ r.2.2.1 = 0 := by
  rcases h with ⟨rfl, rfl⟩ | ⟨rfl, h1, h2⟩ <;> exact ⟨rfl, rfl⟩
theorem RC.at (h : RC f tk r) : r.1 = f ∧ r.2.2.1 = 0 := by
  rcases h with ⟨rfl, rfl⟩ | ⟨rfl, h1, h2⟩ <;> exact ⟨rfl, rfl⟩
theorem stp_go (hn : 2 ≤ n ∧ n ≤ 32) (hf : 0 ≤ f ∧ f < n) {g : Int} (hg : (c = 1 ∧ g = f + 1 ∧ g < n) ∨ (c = 2 ∧ g = f - 1 ∧ 0 ≤ g)) (ht : 1 ≤ t ∧ t ≤ 10000) :
    stp n (f, f, 0, 2, 0, 0) c t = if t = 1 then (g, g, 0, 2, 0, 0) else (f, g, t - 1, 2, 0, 0) := by
  have hi := isSt_stand hn hf (d := 2) (a := 0) (k := 0) (by omega)
  have e1 : nextOf (f, f, 0, 2, 0, 0) c = g := by unfold nextOf; simp only; split <;> (try split) <;> omega
  have e2 : clampT t = t := by unfold clampT; omega
  unfold stp
  rw [if_neg (by simpa using hi), if_neg (by simp), e1, if_pos (by simp only [and_true, true_and, or_true, true_or, or_false, false_or, not_true_eq_false, and_false, false_and, not_false_eq_true, ne_eq, if_true, if_false, Bool.false_eq_true, Int.reduceEq, Int.reduceNeg, Int.reduceLE, Int.reduceLT]; omega), e2]
  unfold moved
  simp only
  by_cases h1 : t = 1
  · subst h1; simp
  · rw [if_neg (by omega), if_neg h1]
theorem stp_on (hn : 2 ≤ n ∧ n ≤ 32) (hf : 0 ≤ f ∧ f < n) {g L : Int} (hg : (g = f + 1 ∧ g < n) ∨ (g = f - 1 ∧ 0 ≤ g)) (hL : 1 ≤ L ∧ L ≤ 10000) :
    stp n (f, g, L, 2, 0, 0) c t = if L = 1 then (g, g, 0, 2, 0, 0) else (f, g, L - 1, 2, 0, 0) := by
  have hi : IsSt n (f, g, L, 2, 0, 0) := by simp only [IsSt, and_true, true_and, or_true, true_or, or_false, false_or, not_true_eq_false, and_false, false_and, not_false_eq_true, ne_eq, if_true, if_false, Bool.false_eq_true, Int.reduceEq, Int.reduceNeg, Int.reduceLE, Int.reduceLT]; omega
  unfold stp
  rw [if_neg (by simpa using hi), if_pos (by simp only; omega)]
  unfold moved
  simp only
  by_cases h1 : L = 1
  · subst h1; simp
  · rw [if_neg (by omega), if_neg h1]
end
end Go.Proofs.YtngbcgnihbjfnaaGreatDoor.Sp
end

section
/- The played drive is the plain one (own work). -/
namespace Go.Proofs.YtngbcgnihbjfnaaGreatDoor.Sp
open Go Sy
set_option linter.unusedVariables false
set_option linter.unusedSimpArgs false
theorem risstate_eq (fl : Int) (s : RigT) : F17 (fl, s) = decide (IsSt fl s) := by
  rw [Bool.eq_iff_iff, decide_eq_true_iff]
  simp only [F17, F31, IsSt, IntKind.wrap_i64, Bool.cond_eq_ite]
  split <;> (try split) <;> (try split) <;> simp only [Bool.or_eq_true, Bool.and_eq_true, Bool.not_eq_true', Bool.and_eq_false_iff, decide_eq_true_eq, decide_eq_false_iff_not, beq_iff_eq, bne_iff_ne, ne_eq, Bool.false_eq_true, false_iff] at * <;> omega
theorem tup6 {a b c d e f a' b' c' d' e' f' : Int} (h1 : a = a') (h2 : b = b') (h3 : c = c') (h4 : d = d') (h5 : e = e') (h6 : f = f') : (a, b, c, d, e, f) = (a', b', c', d', e', f') := by subst h1 h2 h3 h4 h5 h6; rfl
theorem rarrive_eq (s : RigT) : F38 s = moved s := by
  simp only [F38, moved, Bool.cond_eq_ite, beq_iff_eq]
set_option maxHeartbeats 2000000 in
theorem rstep_eq (fl : Int) (s : RigT) (cmd time : Int) : F20 (fl, s, cmd, time) = stp fl s cmd time := by
  unfold F20 stp
  simp only [risstate_eq]
  by_cases h : IsSt fl s
  · obtain ⟨f, t, l, d, a, n⟩ := s
    have h' := h
    simp only [IsSt] at h'
    simp only [h, decide_true, not_true, if_false, Bool.not_true, cond_false]
    have ct : max 1 (min time 10000) = clampT time := by unfold clampT; omega
    have ct2 : 1 ≤ clampT time ∧ clampT time ≤ 10000 := by unfold clampT; omega
    simp only [ct]
    generalize clampT time = tm at ct2
    simp (disch := omega) only [wrap_i64_of, rarrive_eq, F31]
    by_cases c1 : cmd = 1
    · subst c1
      simp only [Int.reduceBEq, false_or, or_false, not_true_eq_false, and_false, false_and, Bool.false_eq_true, and_true, true_and, cond_true, cond_false, Bool.or_false, Bool.false_or, nextOf, aimOf, doorOf, Bool.cond_eq_ite, Int.reduceEq, if_true, if_false, or_self, Bool.or_eq_true, Bool.and_eq_true, Bool.not_eq_true', Bool.and_eq_false_iff, decide_eq_true_eq, decide_eq_false_iff_not, beq_iff_eq, bne_iff_ne, ne_eq]
      (repeat' split) <;> first | rfl | omega | exact tup6 (by omega) (by omega) (by omega) (by omega) (by omega) (by omega) | exact congrArg moved (tup6 (by omega) (by omega) (by omega) (by omega) (by omega) (by omega))
    by_cases c2 : cmd = 2
    · subst c2
      simp only [Int.reduceBEq, false_or, or_false, not_true_eq_false, and_false, false_and, Bool.false_eq_true, and_true, true_and, cond_true, cond_false, Bool.or_false, Bool.false_or, nextOf, aimOf, doorOf, Bool.cond_eq_ite, Int.reduceEq, if_true, if_false, or_self, Bool.or_eq_true, Bool.and_eq_true, Bool.not_eq_true', Bool.and_eq_false_iff, decide_eq_true_eq, decide_eq_false_iff_not, beq_iff_eq, bne_iff_ne, ne_eq]
      (repeat' split) <;> first | rfl | omega | exact tup6 (by omega) (by omega) (by omega) (by omega) (by omega) (by omega) | exact congrArg moved (tup6 (by omega) (by omega) (by omega) (by omega) (by omega) (by omega))
    by_cases c3 : cmd = 3
    · subst c3
      simp only [Int.reduceBEq, false_or, or_false, not_true_eq_false, and_false, false_and, Bool.false_eq_true, and_true, true_and, cond_true, cond_false, Bool.or_false, Bool.false_or, nextOf, aimOf, doorOf, Bool.cond_eq_ite, Int.reduceEq, if_true, if_false, or_self, Bool.or_eq_true, Bool.and_eq_true, Bool.not_eq_true', Bool.and_eq_false_iff, decide_eq_true_eq, decide_eq_false_iff_not, beq_iff_eq, bne_iff_ne, ne_eq]
      (repeat' split) <;> first | rfl | omega | exact tup6 (by omega) (by omega) (by omega) (by omega) (by omega) (by omega) | exact congrArg moved (tup6 (by omega) (by omega) (by omega) (by omega) (by omega) (by omega))
    by_cases c4 : cmd = 4 ∨ cmd = 5
    · have e1 : (cmd == 1) = false := by simp; omega
      have e2 : (cmd == 2) = false := by simp; omega
      have e3 : (cmd == 3) = false := by simp; omega
      have e4 : ((cmd == 4) || (cmd == 5)) = true := by simp; omega
      simp only [e1, e2, e3, e4, c1, c2, c3, c4, Int.reduceBEq, false_or, or_false, not_true_eq_false, and_false, false_and, Bool.false_eq_true, and_true, true_and, cond_true, cond_false, Bool.or_false, Bool.false_or, nextOf, aimOf, doorOf, Bool.cond_eq_ite, Int.reduceEq, if_true, if_false, or_self, Bool.or_eq_true, Bool.and_eq_true, Bool.not_eq_true', Bool.and_eq_false_iff, decide_eq_true_eq, decide_eq_false_iff_not, beq_iff_eq, bne_iff_ne, ne_eq]
      (repeat' split) <;> first | rfl | omega | exact tup6 (by omega) (by omega) (by omega) (by omega) (by omega) (by omega) | exact congrArg moved (tup6 (by omega) (by omega) (by omega) (by omega) (by omega) (by omega))
    · have e1 : (cmd == 1) = false := by simp; omega
      have e2 : (cmd == 2) = false := by simp; omega
      have e3 : (cmd == 3) = false := by simp; omega
      have e4 : ((cmd == 4) || (cmd == 5)) = false := by simp; omega
      simp only [e1, e2, e3, e4, c1, c2, c3, c4, Int.reduceBEq, false_or, or_false, not_true_eq_false, and_false, false_and, Bool.false_eq_true, and_true, true_and, cond_true, cond_false, Bool.or_false, Bool.false_or, nextOf, aimOf, doorOf, Bool.cond_eq_ite, Int.reduceEq, if_true, if_false, or_self, Bool.or_eq_true, Bool.and_eq_true, Bool.not_eq_true', Bool.and_eq_false_iff, decide_eq_true_eq, decide_eq_false_iff_not, beq_iff_eq, bne_iff_ne, ne_eq]
      (repeat' split) <;> first | rfl | omega | exact tup6 (by omega) (by omega) (by omega) (by omega) (by omega) (by omega) | exact congrArg moved (tup6 (by omega) (by omega) (by omega) (by omega) (by omega) (by omega))
  · simp [h]; rfl
end Go.Proofs.YtngbcgnihbjfnaaGreatDoor.Sp
end

section
/- RigDrives: the program is the reference, for arbitrary states; a step that can be done has no error (own work). -/
namespace Go.Proofs.YtngbcgnihbjfnaaGreatDoor.Sp
open Go Sy
set_option linter.unusedVariables false
set_option linter.unusedSimpArgs false
set_option maxRecDepth 10000
theorem nat_of {b : BldT} (hB : IsB b) : ∃ n : Nat, b.1 = n := ⟨b.1.toNat, by have := hB.fl; omega⟩
theorem iscar_iff {b : BldT} {car : Int} {s : CarS} : F22 (b, car, s) = true ↔ F39 (b, s) = true ∧ 0 ≤ car ∧ car < (b.2.2.2.2.2.2.2.length : Int) := by
  unfold F22
  simp only [Bool.and_eq_true, decide_eq_true_eq, ge_iff_le, and_assoc]
theorem istB {b : BldT} {s : CarS} (hl : b.cars.length ≤ maxLen) (wc : W s.2.2.2.1) (h : F39 (b, s) = true) : IsB b ∧ True := by
  by_cases hB : IsB b
  · exact ⟨hB, trivial⟩
  · have hv : F60 b ≠ 0 := fun e => hB (valid_b hl e)
    have e1 : (F60 b != 0) = true := by rw [bne_iff_ne]; exact hv
    unfold F39 at h
    simp only at h
    rw [e1, Bool.true_or, cond_true] at h
    cases h
theorem step_all (b : BldT) (hl : b.cars.length ≤ maxLen) (car : Int) (s : CarS) (fb : FbT) (press : Int) (hall : Int × Int) (wc : W s.2.2.2.1) (wp : W press) (wu : W hall.1) (wd : W hall.2) :
    F18 (b, car, s, fb, press, hall) = F13 (b, car, s, fb, press, hall) ∧ ((F13 (b, car, s, fb, press, hall)).2.2 = 0 → F39 (b, (F13 (b, car, s, fb, press, hall)).1) = true ∧ W (F13 (b, car, s, fb, press, hall)).1.2.2.2.1) := by
  have hk := rknown_eq b car s hl wc
  have hfe : F33 (b, fb) = F23 (b, fb) := rfl
  cases h1 : F22 (b, car, s) with
  | false =>
    unfold F18 F13
    simp only [hk, h1, Bool.not_false, Bool.true_or, cond_true]
    refine ⟨trivial, fun e => ?_⟩
    exact absurd e (by decide)
  | true =>
    obtain ⟨his, hc⟩ := iscar_iff.1 h1
    cases h2 : F23 (b, fb) with
    | false =>
      unfold F18 F13
      simp only [hk, hfe, h1, h2, Bool.not_false, Bool.or_true, cond_true]
      refine ⟨trivial, fun e => ?_⟩
      exact absurd e (by decide)
    | true =>
      cases hfa : s.2.2.2.2.2.2 with
      | true =>
        unfold F18 F13
        simp only [hk, hfe, h1, h2, hfa, Bool.not_true, Bool.or_self, cond_false, cond_true]
        exact ⟨trivial, fun _ => ⟨his, wc⟩⟩
      | false =>
        have hv := istB hl wc his
        obtain ⟨hB, hs⟩ := hv
        obtain ⟨n, hn⟩ := nat_of hB
        have hs := ((isst_iff hl hn wc).1 his).2
        have hN : NS n s := hs.resolve_left (fun e => by rw [e] at hfa; cases hfa)
        have hf := isfb_iff.1 h2
        rw [rstep_ok hB hl hn hc hN his h2 wp wu wd, tick_eq hB hl hn hc hN his h2 wp wu wd]
        refine ⟨rfl, fun _ => ?_⟩
        have hq := ntick_NS (fb := fb) hB hl hn hc hN ⟨hf.1, hf.2.1⟩ wp wu wd
        rcases hq with hq | hq
        · rw [hq]
          exact ⟨(isst_iff hl hn W.zero).2 ⟨hB, Or.inl rfl⟩, W.zero⟩
        · exact ⟨(isst_iff hl hn hq.1.wc).2 ⟨hB, Or.inr hq.1⟩, hq.1.wc⟩
theorem step_zero {b : BldT} (hl : b.cars.length ≤ maxLen) {car : Int} {s : CarS} {fb : FbT} {press : Int} {hall : Int × Int} (wc : W s.2.2.2.1) (wp : W press) (wu : W hall.1) (wd : W hall.2)
    (his : F39 (b, s) = true) (hc : 0 ≤ car ∧ car < (b.2.2.2.2.2.2.2.length : Int)) (h2 : F23 (b, fb) = true) : (F13 (b, car, s, fb, press, hall)).2.2 = 0 := by
  have h1 := iscar_iff.2 ⟨his, hc⟩
  cases hfa : s.2.2.2.2.2.2 with
  | true =>
    unfold F13
    simp only [h1, h2, hfa, Bool.not_true, Bool.or_self, cond_false, cond_true]
  | false =>
    obtain ⟨hB, hs⟩ := istB hl wc his
    obtain ⟨n, hn⟩ := nat_of hB
    have hs := ((isst_iff hl hn wc).1 his).2
    have hN : NS n s := hs.resolve_left (fun e => by rw [e] at hfa; cases hfa)
    rw [tick_eq hB hl hn hc hN his h2 wp wu wd]
theorem u8_of {x : Int} (h : (Lit.int .u8 x).wf = true) : 0 ≤ x ∧ x ≤ 255 := by
  simp only [Lit.wf, Bool.and_eq_true, decide_eq_true_eq] at h
  exact h
theorem law_b {m : Int × Int} (h : (0 ≤ m.1 ∧ m.1 ≤ 255) ∧ 0 ≤ m.2 ∧ m.2 ≤ 255) : ∃ n : Nat, (F4 m).1 = n ∧ 2 ≤ n ∧ n ≤ 6 ∧ IsB (F4 m) ∧ (F4 m).2.2.2.2.2.2.2.length ≤ maxLen ∧ 0 < ((F4 m).2.2.2.2.2.2.2.length : Int) := by
  have hB := b15 h
  have hf := hB.1.fl
  have hc := hB.1.cn
  have hl := b15_len h
  exact ⟨(F4 m).1.toNat, by omega, by omega, by omega, hB.1, Nat.le_trans hl (by decide), by have : 1 ≤ (F4 m).2.2.2.2.2.2.2.length := hc.1; omega⟩
end Go.Proofs.YtngbcgnihbjfnaaGreatDoor.Sp
end

section
/- RigDrives: a control and its drive, for the program and the reference (own work). -/
namespace Go.Proofs.YtngbcgnihbjfnaaGreatDoor.Sp
open Go Sy
set_option linter.unusedVariables false
set_option linter.unusedSimpArgs false
set_option maxRecDepth 10000
theorem gisstate_eq (fl : Int) (s : RigT) : F12 (fl, s) = decide (IsSt fl s) := by
  rw [Bool.eq_iff_iff, decide_eq_true_iff]
  simp only [F12, F21, IsSt, IntKind.wrap_i64, Bool.cond_eq_ite]
  split <;> (try split) <;> (try split) <;> simp only [Bool.or_eq_true, Bool.and_eq_true, Bool.not_eq_true', Bool.and_eq_false_iff, decide_eq_true_eq, decide_eq_false_iff_not, beq_iff_eq, bne_iff_ne, ne_eq, Bool.false_eq_true, false_iff] at * <;> omega
theorem garrive_eq (s : RigT) : F28 s = moved s := by
  simp only [F28, moved, Bool.cond_eq_ite, beq_iff_eq]
theorem gnext_eq (s : RigT) (cmd : Int) (h : -100 ≤ s.1 ∧ s.1 ≤ 100) : F27 (s, cmd) = nextOf s cmd := by
  simp only [F27, nextOf, Bool.cond_eq_ite, beq_iff_eq]
  rw [wrap_i64_of (by omega) (by omega), wrap_i64_of (by omega) (by omega)]
theorem gaim_eq (s : RigT) (cmd : Int) : F30 (s, cmd) = aimOf s cmd := by
  simp only [F30, aimOf, Bool.cond_eq_ite, beq_iff_eq]
  (repeat' split) <;> first | rfl | omega
theorem gdoor_eq (s : RigT) (to time : Int) (h : 0 ≤ s.2.2.2.2.2 ∧ s.2.2.2.2.2 ≤ 10000) (ht : 1 ≤ time ∧ time ≤ 10000) : F29 (s, to, time) = doorOf s to time := by
  simp only [F29, doorOf, Bool.cond_eq_ite, beq_iff_eq, Bool.or_eq_true, Bool.and_eq_true]
  rw [wrap_i64_of (x := s.2.2.2.2.2 - 1) (by omega) (by omega), wrap_i64_of (x := time - 1) (by omega) (by omega)]
  by_cases h1 : to = 0 ∨ s.2.2.2.1 = to
  · simp only [h1, if_true]
  · simp only [h1, if_false]
    by_cases h2 : s.2.2.2.1 = 0 ∧ s.2.2.2.2.1 = to
    · simp only [h2, and_self, if_true]
      by_cases h3 : s.2.2.2.2.2 - 1 = 0 <;> simp [h3]
    · simp only [h2, if_false]
      by_cases h3 : time - 1 = 0 <;> simp [h3]
theorem gstep_eq (fl : Int) (s : RigT) (cmd time : Int) : F15 (fl, s, cmd, time) = stp fl s cmd time := by
  unfold F15 stp
  simp only [gisstate_eq]
  by_cases h : IsSt fl s
  · have h' := h
    simp only [IsSt] at h'
    simp only [h, decide_true, not_true, if_false, Bool.not_true, cond_false]
    rw [wrap_i64_of (x := s.2.2.1 - 1) (by omega) (by omega), wrap_i64_of (x := fl - 1) (by omega) (by omega), wrap_i64_of (x := min (max time 1) 10000 - 1) (by omega) (by omega)]
    rw [garrive_eq, garrive_eq, gnext_eq s cmd (by omega), gaim_eq, gdoor_eq _ _ _ (by omega) (by omega)]
    simp only [F21, Bool.cond_eq_ite, bne_iff_ne, Bool.and_eq_true, decide_eq_true_eq, beq_iff_eq, ge_iff_le, and_assoc]
    rfl
  · simp [h]; rfl
theorem stp_safe {fl : Int} {s : RigT} {cmd time : Int} (h : IsSt fl s) :
    IsSt fl (stp fl s cmd time) ∧ -1 ≤ (stp fl s cmd time).1 - s.1 ∧ (stp fl s cmd time).1 - s.1 ≤ 1 ∧ ((stp fl s cmd time).1 ≠ s.1 → s.2.2.2.1 = 2 ∧ (stp fl s cmd time).2.2.2.1 = 2) := by
  obtain ⟨f, t, l, d, a, n⟩ := s
  have h' := h
  simp only [IsSt] at h'
  have ct2 : 1 ≤ clampT time ∧ clampT time ≤ 10000 := by unfold clampT; omega
  simp only [stp, h, not_true_eq_false, if_false]
  generalize clampT time = tm at ct2
  simp only [moved, nextOf, doorOf, aimOf]
  (repeat' split) <;> (first | (exfalso; omega) | skip) <;> refine ⟨?_, ?_, ?_, ?_⟩ <;> (first | (simp only [IsSt, and_true, true_and, or_true, true_or, or_false, false_or, not_true_eq_false, and_false, false_and, not_false_eq_true, ne_eq, if_true, if_false, Bool.false_eq_true, Int.reduceEq, Int.reduceNeg, Int.reduceLE, Int.reduceLT]; omega) | (simp only []; omega) | omega | (intro hq; first | omega | (simp only [and_true, true_and, or_true, true_or, or_false, false_or, not_true_eq_false, and_false, false_and, not_false_eq_true, ne_eq, if_true, if_false, Bool.false_eq_true, Int.reduceEq, Int.reduceNeg, Int.reduceLE, Int.reduceLT] at hq) | trace_state))
theorem new_isSt {fl f : Int} (h : 2 ≤ fl ∧ fl ≤ 32) (hf : 0 ≤ f ∧ f ≤ fl - 1) : IsSt fl (f, f, 0, 2, 0, 0) := by
  simp only [IsSt, and_true, true_and, or_true, true_or, or_false, false_or, not_true_eq_false, and_false, false_and, not_false_eq_true, ne_eq, if_true, if_false, Bool.false_eq_true, Int.reduceEq, Int.reduceNeg, Int.reduceLE, Int.reduceLT]; omega
def rp (r : RigT) (bk : Bool) : FbT := (r.1, r.2.2.1 == 0, r.2.2.2.1, bk)
def DI (b : BldT) (s : CarS) (r : RigT) : Prop := F39 (b, s) = true ∧ W s.2.2.2.1 ∧ IsSt b.1 r
theorem rp_fb {b : BldT} {r : RigT} (h : IsSt b.1 r) (bk : Bool) : F23 (b, rp r bk) = true := by
  refine isfb_iff.2 ?_
  show 0 ≤ r.1 ∧ r.1 < b.1 ∧ 0 ≤ r.2.2.2.1 ∧ r.2.2.2.1 ≤ 2
  unfold IsSt at h
  omega
section
variable {b : BldT} {s : CarS} {r : RigT} {p u d t : Int} {bk : Bool}
theorem gdrive_val (h : IsSt b.1 r) (he : (F13 (b, 0, s, rp r bk, p, (u, d))).2.2 = 0) :
    F6 (b, 0, s, r, p, (u, d), t, bk) = ((F13 (b, 0, s, rp r bk, p, (u, d))).1, stp b.1 r (F13 (b, 0, s, rp r bk, p, (u, d))).2.1 t, (F13 (b, 0, s, rp r bk, p, (u, d))).2.1, 0) := by
  unfold F6
  simp only [show ∀ r bk, F14 (r, bk) = rp r bk from fun _ _ => rfl]
  rw [gisstate_eq, decide_eq_true h, he, gstep_eq]
  rfl
theorem pdrive_val (h : IsSt b.1 r) (hr : F18 (b, 0, s, rp r bk, p, (u, d)) = F13 (b, 0, s, rp r bk, p, (u, d))) (he : (F13 (b, 0, s, rp r bk, p, (u, d))).2.2 = 0) :
    F11 (b, 0, s, r, p, (u, d), t, bk) = ((F13 (b, 0, s, rp r bk, p, (u, d))).1, stp b.1 r (F13 (b, 0, s, rp r bk, p, (u, d))).2.1 t, (F13 (b, 0, s, rp r bk, p, (u, d))).2.1, 0) := by
  unfold F11
  simp only [show ∀ r bk, F19 (r, bk) = rp r bk from fun _ _ => rfl]
  rw [risstate_eq, decide_eq_true h, hr, he, rstep_eq]
  rfl
theorem drive_all (hl : b.cars.length ≤ maxLen) (hp : 0 < (b.2.2.2.2.2.2.2.length : Int)) (h : DI b s r) (wp : W p) (wu : W u) (wd : W d) :
    F11 (b, 0, s, r, p, (u, d), t, bk) = F6 (b, 0, s, r, p, (u, d), t, bk) ∧ (F6 (b, 0, s, r, p, (u, d), t, bk)).2.2.2 = 0 ∧
    DI b (F6 (b, 0, s, r, p, (u, d), t, bk)).1 (F6 (b, 0, s, r, p, (u, d), t, bk)).2.1 := by
  have hs := step_all b hl 0 s (rp r bk) p (u, d) h.2.1 wp wu wd
  have he := step_zero hl (fb := rp r bk) (press := p) (hall := (u, d)) (car := 0) h.2.1 wp wu wd h.1 ⟨Int.le_refl _, hp⟩ (rp_fb h.2.2 bk)
  have h2 := hs.2 he
  rw [gdrive_val h.2.2 he, pdrive_val h.2.2 hs.1 he]
  exact ⟨rfl, rfl, h2.1, h2.2, (stp_safe h.2.2).1⟩
theorem gdrive_zero : (F6 (b, 0, s, ((0 : Int), (0 : Int), (0 : Int), (0 : Int), (0 : Int), (0 : Int)), p, (u, d), t, bk)).2.2.2 = 1 := by
  unfold F6
  simp only
  rw [gisstate_eq, decide_eq_false (fun h => by simp only [IsSt, and_true, true_and, or_true, true_or, or_false, false_or, not_true_eq_false, and_false, false_and, not_false_eq_true, ne_eq, if_true, if_false, Bool.false_eq_true, Int.reduceEq, Int.reduceNeg, Int.reduceLE, Int.reduceLT] at h)]
  rfl
theorem gdrive_neg (h : IsSt b.1 r) : (F6 (b, -1, s, r, p, (u, d), t, bk)).2.2.2 = 1 := by
  have h1 : F22 (b, -1, s) = false := by
    cases hq : F22 (b, -1, s) with
    | false => rfl
    | true => exact absurd (iscar_iff.1 hq).2.1 (by decide)
  have hv : ∀ fb : FbT, (F13 (b, -1, s, fb, p, (u, d))).2.2 = 1 := fun fb => by
    unfold F13
    simp only [h1, Bool.not_false, Bool.true_or, cond_true]
  unfold F6
  simp only
  rw [gisstate_eq, decide_eq_true h, hv]
  rfl
end
theorem zero_NS (n : Nat) : NS n ((0, 0), zd, zm, 0, 0, 0, false) := ⟨by show (0 : Int) ≤ 0 ∧ (0 : Int) ≤ 2; decide, by show (0 : Int) ≤ 0 ∧ (0 : Int) ≤ 7; decide, Or.inl rfl, MOk.z n, Or.inl rfl, W.zero, (fun i h => by rw [bit_zero] at h; cases h), by show (0 : Int) ≤ 0 ∧ (0 : Int) ≤ 2; decide, by show (0 : Int) ≤ 0 ∧ (0 : Int) ≤ 1000000; decide, rfl⟩
theorem new_DI {b : BldT} {f : Int} (hB : IsB b) (hl : b.cars.length ≤ maxLen) (hf : 0 ≤ f ∧ f < b.1) : DI b ((0, 0), zd, zm, 0, 0, 0, false) (f, f, 0, 2, 0, 0) := by
  obtain ⟨n, hn⟩ := nat_of hB
  exact ⟨(isst_iff hl hn W.zero).2 ⟨hB, Or.inr (zero_NS n)⟩, W.zero, new_isSt hB.fl ⟨hf.1, by omega⟩⟩
end Go.Proofs.YtngbcgnihbjfnaaGreatDoor.Sp
end

section
/- RigDrives: the law (own work). -/
namespace Go.Proofs.YtngbcgnihbjfnaaGreatDoor.Sp
open Go Sy
set_option linter.unusedVariables false
set_option linter.unusedSimpArgs false
set_option maxRecDepth 10000
theorem state_DI {b : BldT} (l : List Int) (h8 : ∀ y ∈ l, 0 ≤ y ∧ y ≤ 255) (hB : IsB b) (hl : b.cars.length ≤ maxLen) (hp : 0 < (b.2.2.2.2.2.2.2.length : Int)) :
    DI b (F5 (b, 0, l)).1 (F5 (b, 0, l)).2 := by
  have hfl := hB.fl
  have key : ∀ (mo : Int) (r0 : RigT), DI b ((0, 0), zd, zm, 0, 0, 0, false) r0 →
      DI b (G5_6 (0, l, mo, b) (0, ((0, 0), zd, zm, 0, 0, 0, false), r0)).2.1 (G5_6 (0, l, mo, b) (0, ((0, 0), zd, zm, 0, 0, 0, false), r0)).2.2 := by
    intro mo r0 h0
    unfold G5_6
    refine loop_spec (ρ := CarS × RigT) (step := st5_6) (k := (0, l, mo, b)) (fun y => 0 ≤ y.1 ∧ DI b y.2.1 y.2.2) (mu5_6 (0, l, mo, b)) (fun _ y => DI b y.2.1 y.2.2) (fun y hy => ?_) _ _ ⟨Int.le_refl _, h0⟩ (Nat.lt_succ_self _)
    unfold st5_6
    cases hcnd : (decide (y.1 < (l.length : Int))) && (decide (y.1 < (120 : Int))) with
    | false => rw [cond_false]; exact hy.2
    | true =>
      rw [cond_true]
      simp only [Bool.and_eq_true, decide_eq_true_eq] at hcnd
      have hy1 := hy.1
      rw [wrap_i64_of (x := y.1 + 1) (by omega) (by omega)]
      have hmu : mu5_6 (0, l, mo, b) (y.1 + 1, y.2) < mu5_6 (0, l, mo, b) y := by
        unfold mu5_6; simp only; omega
      obtain ⟨p, u, d, t, bk, w1, w2, w3, e⟩ : ∃ (p u d t : Int) (bk : Bool), W p ∧ W u ∧ W d ∧ K5_6_1 (0, l, mo, b) y = F11 (b, 0, y.2.1, y.2.2, p, (u, d), t, bk) :=
        ⟨_, _, _, _, _, W_wrap _, W_wrap _, W_wrap _, rfl⟩
      rw [e]
      have hd := drive_all (t := t) (bk := bk) hl hp hy.2 w1 w2 w3
      rw [hd.1, hd.2.1]
      exact ⟨⟨by show 0 ≤ y.1 + 1; omega, hd.2.2⟩, hmu⟩
  unfold F5 K5_1 K5_2
  simp only
  cases hlen : decide ((l.length : Int) > 0) with
  | false =>
    rw [cond_false]
    exact key _ _ (new_DI hB hl (by omega))
  | true =>
    rw [cond_true]
    rw [decide_eq_true_eq] at hlen
    have he := h8 (nthT l 0) (by rw [nthT_of l 0 (Int.le_refl _) hlen]; exact List.getElem_mem _)
    refine key _ _ (new_DI hB hl ?_)
    rw [wrap_i64_of (x := nthT l 0) (by omega) (by omega)]
    exact ⟨Int.tmod_nonneg _ he.1, Int.tmod_lt_of_pos _ (by omega)⟩
theorem rsane : F8 () = true := by kernel_rfl
def LI (b : BldT) (x : Int × CarS × RigT × CarS × RigT) : Prop := 0 ≤ x.1 ∧ DI b x.2.1 x.2.2.1 ∧ x.2.2.2 = (x.2.1, x.2.2.1)
theorem loop_all {b : BldT} (hl : b.cars.length ≤ maxLen) (hp : 0 < (b.2.2.2.2.2.2.2.length : Int)) (m : List Int) (x : Int × CarS × RigT × CarS × RigT) (h : LI b x) :
    R3_5 (m, b) x = none ∧ DI b (G3_5 (m, b) x).2.1 (G3_5 (m, b) x).2.2.1 := by
  unfold R3_5 G3_5
  refine loop_spec (ρ := Bool) (step := st3_5) (k := (m, b)) (LI b) (mu3_5 (m, b)) (fun o y => o = none ∧ DI b y.2.1 y.2.2.1) (fun y hy => ?_) _ _ h (Nat.lt_succ_self _)
  unfold st3_5
  cases hcnd : (decide (y.1 < (m.length : Int))) && (decide (y.1 < (60 : Int))) with
  | false => rw [cond_false]; exact ⟨rfl, hy.2.1⟩
  | true =>
    rw [cond_true]
    simp only [Bool.and_eq_true, decide_eq_true_eq] at hcnd
    have hy1 := hy.1
    rw [wrap_i64_of (x := y.1 + 1) (by omega) (by omega)]
    obtain ⟨p, u, d, t, bk, w1, w2, w3, e1, e2⟩ : ∃ (p u d t : Int) (bk : Bool), W p ∧ W u ∧ W d ∧ K3_5_1 (m, b) y = F6 (b, 0, y.2.1, y.2.2.1, p, (u, d), t, bk) ∧
        K3_5_2 (m, b) y = F11 (b, 0, y.2.2.2.1, y.2.2.2.2, p, (u, d), t, bk) :=
      ⟨_, _, _, _, _, W_wrap _, W_wrap _, W_wrap _, rfl, rfl⟩
    have hd := drive_all (t := t) (bk := bk) hl hp hy.2.1 w1 w2 w3
    rw [e1, e2, hy.2.2]
    simp only
    rw [hd.1]
    generalize F6 (b, 0, y.2.1, y.2.2.1, p, (u, d), t, bk) = q at hd
    rw [hd.2.1]
    simp only [beq_self_eq_true, bne_self_eq_false, Bool.and_self, Bool.not_true, Bool.or_self, cond_false]
    refine ⟨⟨by show 0 ≤ y.1 + 1; omega, hd.2.2, rfl⟩, ?_⟩
    unfold mu3_5
    simp only
    omega
theorem law_drives (x : ct3.p.den) (h : InR ct3.p x) : ct3.F x = true := by
  obtain ⟨n, l, m⟩ := x
  have hm : (0 ≤ n.1 ∧ n.1 ≤ 255) ∧ 0 ≤ n.2 ∧ n.2 ≤ 255 := ⟨u8_of h.1.1, u8_of h.1.2⟩
  obtain ⟨_, _, _, _, hB, hl, hp⟩ := law_b (m := n) hm
  have hs := state_DI l (fun y hy => u8_of (h.2.1.2 y hy)) hB hl hp
  show F3 (n, l, m) = true
  unfold F3 K3_1 K3_2
  simp only
  generalize F4 n = b at *
  generalize hq : F5 (b, 0, l) = q at *
  have ha := loop_all hl hp m (0, q.1, q.2, q) ⟨Int.le_refl _, hs, rfl⟩
  rw [ha.1, optR_none, gdrive_zero, gdrive_neg ha.2.2.2, rsane]
  rfl
end Go.Proofs.YtngbcgnihbjfnaaGreatDoor.Sp
end

section
/- RigDrives: the call of the law returns true (written by own program mkwalk.py, out of the contract and the plain law). -/
namespace Go.Proofs.YtngbcgnihbjfnaaGreatDoor.Sy
open Go Go.RowKit
set_option linter.unusedVariables false
set_option linter.unusedSimpArgs false
set_option maxRecDepth 100000
theorem tr_T5 {w : World} (cs : List Value) (h : E_T5 cs) : ∃ x : ty5.den, TR w (fun _ _ => False) ty5 x cs ∧ InR ty5 x := by
  obtain ⟨a0, rfl, w0⟩ := h
  exact ⟨a0, tr_of ⟨rfl, trivial⟩, w0⟩
theorem pre_law (x : ct3.p.den) (h : InR ct3.p x) : ∀ q, ct3.pre = some q → q x := by
  intro q hq
  cases hq
  simp only [ct3, InR, Lit.wf, Bool.and_eq_true, decide_eq_true_eq] at h
  simp only [Sp.pre3]
  try simp only [show IntKind.u8.min = 0 from rfl, show IntKind.u8.max = 255 from rfl, show IntKind.u16.min = 0 from rfl, show IntKind.u16.max = 65535 from rfl, show IntKind.u32.min = 0 from rfl, show IntKind.u32.max = 4294967295 from rfl, show IntKind.u64.min = 0 from rfl, show IntKind.u64.max = 18446744073709551615 from rfl, show IntKind.i64.min = -9223372036854775808 from rfl, show IntKind.i64.max = 9223372036854775807 from rfl] at h
  repeat' (first | exact trivial | apply And.intro)
  all_goals first | omega | (intro v hv; first | exact h.2.2.2 v hv | exact h.2.2 v hv | exact h.2 v hv | exact h.1.2 v hv | exact h.2.1.2 v hv | exact h.2.2.1.2 v hv | exact h.2.2.2.2 v hv)
theorem walk_RigDrives (a0_0 : Int) (a0_1 : Int) (a1_0 : Value) (a2_0 : Value) (w : World) (w0_0 : (Lit.int .u8 a0_0).wf = true) (w0_1 : (Lit.int .u8 a0_1).wf = true) (w1_0 : IsSlice w 1 E_T5 a1_0) (w2_0 : IsSlice w 1 E_T5 a2_0) (hT : gdS.H w) :
    Calls Tryz.prog 3 #[.agg #[.int .u8 a0_0, .int .u8 a0_1], a1_0, a2_0] w fun e w' => e = .returned (.bool true) ∧ Below w.heap.size w w' := by
  obtain ⟨l1_0, t1_0, r1_0⟩ := slice_tr (e := ty5) rfl tr_T5 w1_0
  obtain ⟨l2_0, t2_0, r2_0⟩ := slice_tr (e := ty5) rfl tr_T5 w2_0
  exact call_true ok3 ((a0_0, a0_1), l1_0, l2_0) w _ [.int .u8 a0_0, .int .u8 a0_1, a1_0, a2_0] hT (pre_law _ ⟨⟨w0_0, w0_1⟩, r1_0, r2_0⟩) ⟨[.int .u8 a0_0, .int .u8 a0_1], _, rfl, rfl, rfl, ⟨_, rfl, ⟨_, rfl, rfl⟩⟩⟩ (tr_of ⟨rfl, rfl, ⟨t1_0, trivial⟩, ⟨t2_0, trivial⟩, trivial⟩) (Sp.law_drives _ ⟨⟨w0_0, w0_1⟩, r1_0, r2_0⟩)
end Go.Proofs.YtngbcgnihbjfnaaGreatDoor.Sy
end

section
/- RigDrives: for every input the call of the law returns true, and the arguments read behind the call as before. The walk stands in YtngbcgnihbjfnaaGreatDoorRigDrivesWalk. -/
namespace Go.Proofs.YtngbcgnihbjfnaaGreatDoor.rigDrives
open Go.ChangeShapes Go.WideShapes Go.ChangeAt Go.RowKit
set_option linter.unusedVariables false
theorem own : ownKnob Tryz.prog.godebug = none := by kernel_rfl
theorem laidOut : laidOutB Tryz.prog = true := by kernel_rfl
theorem gTab : Tryz.prog.globalNamed "math/bits.deBruijn32tab" = some 0 := by kernel_rfl
theorem door_met (os : Os) (args : Array Value) : laidMetH Tryz.prog Rows.rigDrivesRow.laid ((World.doorLaid Tryz.prog 400 os).forCall (fun _ _ => 0) ⟨#[], args, []⟩).memory :=
  laidMetH_of_parts3 (fuel := 8) (laidMet_of_run' 8 (by kernel_rfl) (by kernel_rfl)) (by kernel_rfl) (by kernel_rfl)
theorem of_laid {W : World} (h : laidMetH Tryz.prog Rows.rigDrivesRow.laid W) : Sy.gdS.H W := by
  have h : laidMet Tryz.prog [("math/bits.deBruijn32tab", Lib.tabData .u8 Sy.tabB)] W := h
  obtain ⟨t, ht⟩ : ∃ t, (Tryz.prog.globals[0]?).map (·.type) = some t := ⟨_, rfl⟩
  have hT := Lib.tabIs_of_head (n := 32) (t := 145) (e := 5) gTab (by kernel_rfl) Tryz.underlying145 Tryz.underlying5 (by kernel_rfl) (by kernel_rfl) h
  exact fun k hk => hT.cell gTab k hk
set_option maxRecDepth 100000 in
theorem lifted (os : Os) (started : os.Started) (H : Type) (enc : TypeId × Value → H) :
    ReturnsInHanded {} Tryz.checked os 3 .any (fun w args => (Rows.rigDrivesSpec.pre enc Tryz.prog Tryz.f3 [] false w args ∧ laidMetH Tryz.prog Rows.rigDrivesRow.laid w) ∧ sizedMet enc Tryz.prog Tryz.f3 (OpenSpec.ofChange Rows.rigDrivesSpec) false w args)
      (Rows.rigDrivesSpec.post enc Tryz.prog Tryz.f3 false true false false) := by
  refine returnsInHanded_of_change_and (C := Tryz.checked) (X := fun w _ => laidMetH Tryz.prog Rows.rigDrivesRow.laid w) (fun _ _ _ hh h => h.of_heap hh) own started (by kernel_rfl) Tryz.func3
    (ChangeSpec.witness_shaped (enc := enc) (C := Tryz.checked) (os := os) (X := fun w _ => laidMetH Tryz.prog Rows.rigDrivesRow.laid w) false (World.doorLaid Tryz.prog 400 os) #[.agg #[.int .u8 0, .int .u8 0], .slice none 0 0, .slice none 0 0] 8 rfl (World.shaped_of_RefB (by kernel_rfl) (by kernel_rfl)) (by kernel_rfl) (by kernel_rfl) (by kernel_rfl) (door_met os _)) ?_
  intro W base args ds gs before hval0 hW hcnd _ hL _
  have hH := of_laid hL
  have hval : ∀ (j : Nat) t v, Tryz.f3.params[j]? = some t → args[j]? = some v → Value.okWide Tryz.prog W .any base t v := hval0
  have hW' := hW
  obtain ⟨p, q, hA0, hV, rfl, hfz, hnd⟩ := hW
  have hA : DataW.TrodAll enc Tryz.prog W 0 (fun _ => true) true Tryz.f3.params.toList args.toList ds p := hA0
  rw [Tryz.params3] at hA hval
  obtain ⟨v0, vs0, d0, ds0, p0, q0, hargs, rfl, rfl, h0, r0⟩ := trodAll_cons hA
  obtain ⟨v1, vs1, d1, ds1, p1, q1, rfl, rfl, rfl, h1, r1⟩ := trodAll_cons r0
  obtain ⟨v2, vs2, d2, ds2, p2, q2, rfl, rfl, rfl, h2, r2⟩ := trodAll_cons r1
  obtain ⟨rfl, rfl, rfl⟩ := trodAll_nil r2
  obtain rfl : args = #[v0, v1, v2] := by cases args; simp_all
  obtain ⟨rfl, rfl⟩ := trodVars_none hV
  have k0 := h0
  have lt0 : ∀ x ∈ p0, x.block < W.heap.size := by obtain ⟨m, hm⟩ := k0; exact DataW.trod_lt m _ _ _ hm
  obtain ⟨c0, rfl, hsz0⟩ := okWide_array Tryz.underlying22 (hval 0 22 v0 rfl rfl)
  obtain ⟨fuel0, hf0⟩ := h0
  obtain ⟨a0_0, a0_1, e0, w0_0, w0_1⟩ := open_T22 hf0
  have e0' : c0 = #[.int .u8 a0_0, .int .u8 a0_1] := by rw [← Array.toList_inj]; exact e0
  subst e0'
  have k1 := h1
  have lt1 : ∀ x ∈ p1, x.block < W.heap.size := by obtain ⟨m, hm⟩ := k1; exact DataW.trod_lt m _ _ _ hm
  obtain ⟨b1, l1, cp1, rfl⟩ := okWide_slice Tryz.underlying23 (hval 1 23 v1 rfl rfl)
  obtain ⟨fuel1, hf1⟩ := h1
  obtain ⟨a1_0, e1, w1_0⟩ := open_T23 hf1
  simp only [Value.cells, List.cons.injEq, and_true] at e1
  subst e1
  have k2 := h2
  have lt2 : ∀ x ∈ p2, x.block < W.heap.size := by obtain ⟨m, hm⟩ := k2; exact DataW.trod_lt m _ _ _ hm
  obtain ⟨b2, l2, cp2, rfl⟩ := okWide_slice Tryz.underlying23 (hval 2 23 v2 rfl rfl)
  obtain ⟨fuel2, hf2⟩ := h2
  obtain ⟨a2_0, e2, w2_0⟩ := open_T23 hf2
  simp only [Value.cells, List.cons.injEq, and_true] at e2
  subst e2
  clear hA0 hval0
  refine (Sy.walk_RigDrives a0_0 a0_1 (.slice b1 l1 cp1) (.slice b2 l2 cp2) W w0_0 w0_1 w1_0 w2_0 hH).mono fun e W' ⟨he, bel⟩ => ?_
  subst he
  exact ⟨_, rfl, _, _, _, [], _, [], hW', trodAll_mk1 (shut_bool Tryz.underlying4 _), (trodAll_cons_mk (Below.trod laidOut (by kernel_rfl) (of_decide_eq_true (by kernel_rfl)) k0 bel lt0) (trodAll_cons_mk (Below.trod laidOut (by kernel_rfl) (of_decide_eq_true (by kernel_rfl)) k1 bel lt1) (trodAll_cons_mk (Below.trod laidOut (by kernel_rfl) (of_decide_eq_true (by kernel_rfl)) k2 bel lt2) trodAll_mk0))), rfl, bel.frame _, fun h => by cases h⟩
theorem over : Rows.rigDrivesRow.holds Tryz.pinned (OpenSpec.ofChange Rows.rigDrivesSpec) :=
  OpenClaim.holds_of_wide 3 Tryz.f3 rfl rfl rfl rfl rfl rfl rfl ⟨rfl, rfl, rfl, rfl, rfl⟩ rfl rfl rfl rfl rfl (by kernel_rfl) Tryz.func3 (by kernel_rfl)
    (of_decide_eq_true (by kernel_rfl)) (by unfold Func.isWrapper; first | (rw [if_pos (by decide +kernel)]; kernel_rfl) | (rw [if_neg (by decide +kernel)]; exact ⟨rfl, rfl⟩))
    (fun os started H enc _ => lifted os started H enc)
theorem proved : Rows.RigDrivesCardSaid :=
  Claim7.holds_tied_plain_at .later [] [.data] true (true, "bba31635ce29c31d9d2f300970df460ff80a5c6b744d8271992cfa63954f198a") false
    over (fun _ h => by cases h) (by kernel_rfl) (fun _ h => by cases h) rigDrives_row_tie rfl ⟨rfl, rfl⟩ (by kernel_rfl) rfl
    (fun f fn hf hfn => by
      obtain rfl : f = 3 := Option.some.inj ((show Tryz.prog.funcNamed "overlay/overlaylaw16.RigDrives" = some 3 by kernel_rfl).symm.trans hf) |>.symm
      obtain rfl : fn = Tryz.f3 := (Option.some.inj (Tryz.func3.symm.trans hfn)).symm
      exact ⟨by kernel_rfl, fun j t ht => by
        rw [Tryz.params3] at ht
        have h3 : t ∈ ([22, 23, 23] : List TypeId) := List.mem_of_getElem? (by simpa using ht)
        simp only [List.mem_cons, List.not_mem_nil, or_false] at h3
        rcases h3 with rfl | rfl | rfl
        · exact (show Tryz.prog.wantsStandIn 22 = false by kernel_rfl)
        · exact (show Tryz.prog.wantsStandIn 23 = false by kernel_rfl)
        · exact (show Tryz.prog.wantsStandIn 23 = false by kernel_rfl)⟩)
    (by kernel_rfl)
#print axioms proved
end Go.Proofs.YtngbcgnihbjfnaaGreatDoor.rigDrives
end
