/- Collective: up and down are alike (own work). -/
import Derived.Test.YtidnlehjabhclaaDoorCf
namespace Go.Proofs.YtidnlehjabhclaaDoor.Sp
open Go Sy
set_option linter.unusedVariables false
set_option linter.unusedSimpArgs false
set_option maxRecDepth 10000

/-- A set upside down, i floors of it. -/
def mirW (n : Nat) (c : Int) : Nat → Int
  | 0 => 0
  | i + 1 => or32 (mirW n c i) (shl32 (and32 (shr32 c (i : Int)) 1) ((n - 1 - i : Nat) : Int))
theorem W_mirW (n : Nat) (c : Int) : ∀ i, W (mirW n c i)
  | 0 => W.zero
  | i + 1 => W_or _ _
theorem and_one_bit {x : Int} (hx : W x) (j : Nat) (hj : j < 32) : bit (and32 x 1) j = (decide (j = 0) && bit x 0) := by
  rw [bit_and hx.1 (by omega) j hj, bit1 j hj]
  rcases Nat.eq_zero_or_pos j with h | h
  · subst h; simp
  · rw [show decide (j = 0) = false from by simp; omega, Bool.and_false, Bool.false_and]
theorem bit_mirW {n : Nat} (hn : n ≤ 32) {c : Int} (hc : W c) : ∀ i, i ≤ n → ∀ j, j < 32 → bit (mirW n c i) j = (decide (n - i ≤ j ∧ j < n) && bit c (n - 1 - j))
  | 0, _, j, hj => by
    rw [show mirW n c 0 = 0 from rfl, bit_zero]
    rw [show decide (n - 0 ≤ j ∧ j < n) = false from by simp, Bool.false_and]
  | i + 1, hi, j, hj => by
    rw [show mirW n c (i + 1) = or32 (mirW n c i) (shl32 (and32 (shr32 c (i : Int)) 1) ((n - 1 - i : Nat) : Int)) from rfl]
    rw [bit_or (W_mirW n c i).1 (W_shl _ _).1 j hj, bit_mirW hn hc i (by omega) j hj, bit_shl (W_and _ _).1 _ j hj]
    rcases Nat.lt_trichotomy j (n - 1 - i) with h | h | h
    · rw [show decide (n - 1 - i ≤ j) = false from by simp; omega, show decide (n - i ≤ j ∧ j < n) = false from by simp; omega, show decide (n - (i + 1) ≤ j ∧ j < n) = false from by simp; omega]
      simp
    · subst h
      rw [show n - 1 - i - (n - 1 - i) = 0 from by omega, and_one_bit (W_shr hc _ (by omega)) 0 (by omega), bit_shr hc i 0]
      rw [show decide (n - 1 - i ≤ n - 1 - i) = true from by simp, show decide (n - i ≤ n - 1 - i ∧ n - 1 - i < n) = false from by simp; omega, show decide (n - (i + 1) ≤ n - 1 - i ∧ n - 1 - i < n) = true from by simp; omega]
      rw [show n - 1 - (n - 1 - i) = i from by omega]
      simp
    · rw [and_one_bit (W_shr hc _ (by omega)) (j - (n - 1 - i)) (by omega), show decide (j - (n - 1 - i) = 0) = false from by simp; omega]
      rw [Bool.false_and, Bool.and_false, Bool.or_false]
      rw [show decide (n - i ≤ j ∧ j < n) = decide (n - (i + 1) ≤ j ∧ j < n) from by rw [Bool.eq_iff_iff]; simp; omega]
theorem mir_val {n : Nat} (hn2 : 2 ≤ n) (hn : n ≤ 32) (c u d : Int) : (G4_5 ((n : Int), c, u, d) (0, 0, 0, 0)).2 = (mirW n c n, mirW n d n, mirW n u n) := by
  have hs : ∀ i, i < n → ∃ k', st4_5 ((n : Int), c, u, d) ((fun i : Nat => ((i : Int), mirW n c i, mirW n d i, mirW n u i)) i) = .next k' ((fun i : Nat => ((i : Int), mirW n c i, mirW n d i, mirW n u i)) (i + 1)) := by
    intro i hi
    refine ⟨((n : Int), c, u, d), ?_⟩
    unfold st4_5
    simp only
    rw [show decide ((i : Int) < (n : Int)) = true from by simp; omega, cond_true, uwrap i (by omega), wrap_i64_of (x := (n : Int) - 1) (by omega) (by omega), wrap_i64_of (x := (n : Int) - 1 - i) (by omega) (by omega), wrap_i64_of (x := (i : Int) + 1) (by omega) (by omega),
      show (n : Int) - 1 - i = ((n - 1 - i : Nat) : Int) from by omega, uwrap (n - 1 - i) (by omega)]
    rfl
  have hb : st4_5 ((n : Int), c, u, d) ((fun i : Nat => ((i : Int), mirW n c i, mirW n d i, mirW n u i)) n) = .brk ((n : Int), c, u, d) ((fun i : Nat => ((i : Int), mirW n c i, mirW n d i, mirW n u i)) n) := by
    unfold st4_5
    simp only
    rw [show decide ((n : Int) < (n : Int)) = false from by simp, cond_false]
  have he := end_row_brk (fun i : Nat => ((i : Int), mirW n c i, mirW n d i, mirW n u i)) n hs hb (fuel := Nat.succ (mu4_5 ((n : Int), c, u, d) (0, 0, 0, 0))) (by
    show n < Nat.succ ((n : Int) - 0).toNat
    omega)
  have hG : G4_5 ((n : Int), c, u, d) (0, 0, 0, 0) = ((n : Int), mirW n c n, mirW n d n, mirW n u n) := by
    first | exact he.1 | exact he
  rw [hG]
theorem nth_back : ∀ q, q < 3 → nthT [(0 : Int), (2 : Int), (1 : Int)] ((q : Nat) : Int) = mirD (q : Int) := by decide +kernel
theorem nth_turn : ∀ q, q < 4 → nthT [(0 : Int), (2 : Int), (1 : Int), (3 : Int)] ((q : Nat) : Int) = mirD (q : Int) := by decide +kernel
theorem mirO_val : ∀ x, x < 8 → (IntKind.i64.wrap ((BitVec.ofInt IntKind.i64.bits (IntKind.i64.wrap ((BitVec.ofInt IntKind.i64.bits (IntKind.i64.wrap ((BitVec.ofInt IntKind.i64.bits ((x : Nat) : Int) &&& BitVec.ofInt IntKind.i64.bits (1 : Int)).toNat : Int)) ||| BitVec.ofInt IntKind.i64.bits (IntKind.i64.wrap ((IntKind.i64.wrap ((BitVec.ofInt IntKind.i64.bits (x : Int) &&& BitVec.ofInt IntKind.i64.bits (2 : Int)).toNat : Int)) * 2 ^ (min ((1 : Int)).toNat IntKind.i64.bits)))).toNat : Int)) ||| BitVec.ofInt IntKind.i64.bits (Int.fdiv (IntKind.i64.wrap ((BitVec.ofInt IntKind.i64.bits (x : Int) &&& BitVec.ofInt IntKind.i64.bits (4 : Int)).toNat : Int)) (2 ^ (min ((1 : Int)).toNat IntKind.i64.bits)))).toNat : Int)) = ((mirO x : Nat) : Int) := by decide +kernel
theorem mirO_lt : ∀ x, x < 8 → mirO x < 8 := by decide
section
variable {n f : Nat} {c u d : Int}
theorem mirS (hn : n ≤ 32) (hc : W c) (hu : W u) (hd : W d) {j : Nat} (hj : j < n) : isAt n (mirW n c n) (mirW n d n) (mirW n u n) (n - 1 - j) = isAt n c u d j := by
  unfold isAt
  rw [bit_cA hn (W_mirW _ _ _), bit_cU hn (W_mirW _ _ _), bit_cD hn (W_mirW _ _ _), bit_cA hn hc, bit_cU hn hu, bit_cD hn hd]
  rw [bit_mirW hn hc n (by omega) _ (by omega), bit_mirW hn hd n (by omega) _ (by omega), bit_mirW hn hu n (by omega) _ (by omega)]
  rw [show n - 1 - (n - 1 - j) = j from by omega, show decide (n - n ≤ n - 1 - j ∧ n - 1 - j < n) = true from by simp; omega]
  rw [show decide (n - 1 - j < n) = true from by simp; omega, show decide (j < n) = true from by simp; omega]
  rw [show decide (n - 1 - j + 1 < n) = decide (0 < j ∧ j < n) from by rw [Bool.eq_iff_iff]; simp; omega, show decide (0 < n - 1 - j ∧ n - 1 - j < n) = decide (j + 1 < n) from by rw [Bool.eq_iff_iff]; simp; omega]
  simp only [Bool.true_and, Bool.and_true]
  rw [Bool.or_assoc, Bool.or_assoc]; congr 1; exact Bool.or_comm _ _
theorem mirBits (hn : n ≤ 32) (hc : W c) (hu : W u) (hd : W d) {j : Nat} (hj : j < n) :
    bit (cA n (mirW n c n)) (n - 1 - j) = bit (cA n c) j ∧ bit (cU n (mirW n d n)) (n - 1 - j) = bit (cD n d) j ∧ bit (cD n (mirW n u n)) (n - 1 - j) = bit (cU n u) j := by
  rw [bit_cA hn (W_mirW _ _ _), bit_cU hn (W_mirW _ _ _), bit_cD hn (W_mirW _ _ _), bit_cA hn hc, bit_cU hn hu, bit_cD hn hd]
  rw [bit_mirW hn hc n (by omega) _ (by omega), bit_mirW hn hd n (by omega) _ (by omega), bit_mirW hn hu n (by omega) _ (by omega)]
  rw [show n - 1 - (n - 1 - j) = j from by omega, show decide (n - n ≤ n - 1 - j ∧ n - 1 - j < n) = true from by simp; omega]
  rw [show decide (n - 1 - j < n) = true from by simp; omega, show decide (j < n) = true from by simp; omega]
  rw [show decide (n - 1 - j + 1 < n) = decide (0 < j ∧ j < n) from by rw [Bool.eq_iff_iff]; simp; omega, show decide (0 < n - 1 - j ∧ n - 1 - j < n) = decide (j + 1 < n) from by rw [Bool.eq_iff_iff]; simp; omega]
  simp only [Bool.true_and, Bool.and_true, and_self]
theorem mir_scene {o o' ab be ab' be' : Int} (hn : n ≤ 32) (hc : W c) (hu : W u) (hd : W d) (hf : f < n) (s : Sc n f o c u d ab be) (s' : Sc n (n - 1 - f) o' (mirW n c n) (mirW n d n) (mirW n u n) ab' be') :
    decide (0 < ab') = decide (0 < be) ∧ decide (0 < be') = decide (0 < ab) := by
  have key : ∀ i, i < n → bit (cS (cA n (mirW n c n)) (cU n (mirW n d n)) (cD n (mirW n u n))) (n - 1 - i) = bit (cS (cA n c) (cU n u) (cD n d)) i := fun i hi => by
    rw [isAt_cS _ (by omega), isAt_cS _ (by omega), mirS hn hc hu hd hi]
  constructor
  · rw [Bool.eq_iff_iff, s'.up_iff, s.down_iff]
    constructor
    · rintro ⟨i, hi, hb⟩
      have hl := cS_lt hn (W_mirW _ _ _) (W_mirW _ _ _) (W_mirW _ _ _) hb
      refine ⟨n - 1 - i, by omega, ?_⟩
      rw [← key (n - 1 - i) (by omega), show n - 1 - (n - 1 - i) = i from by omega]; exact hb
    · rintro ⟨i, hi, hb⟩
      exact ⟨n - 1 - i, by omega, by rw [key i (by omega)]; exact hb⟩
  · rw [Bool.eq_iff_iff, s'.down_iff, s.up_iff]
    constructor
    · rintro ⟨i, hi, hb⟩
      refine ⟨n - 1 - i, by omega, ?_⟩
      rw [← key (n - 1 - i) (by omega), show n - 1 - (n - 1 - i) = i from by omega]; exact hb
    · rintro ⟨i, hi, hb⟩
      have hl := cS_lt hn hc hu hd hb
      exact ⟨n - 1 - i, by omega, by rw [key i hl]; exact hb⟩
theorem choose_mir (hn2 : 2 ≤ n) (hn : n ≤ 32) (hc : W c) (hu : W u) (hd : W d) (hf : f < n) {dir o : Nat} (hd1 : dir = 1 ∨ dir = 2) (ho : o < 8) :
    ∃ C : Int × Int × Int, F9 ((n : Int), ((dir : Int), (o : Int)), (f : Int), c, u, d) = C ∧ (0 ≤ C.1 ∧ C.1 ≤ 3 ∧ 0 ≤ C.2.1 ∧ C.2.1 ≤ 2 ∧ 0 ≤ C.2.2 ∧ C.2.2 ≤ 2) ∧
      F9 ((n : Int), (mirD (dir : Int), ((mirO o : Nat) : Int)), ((n - 1 - f : Nat) : Int), mirW n c n, mirW n d n, mirW n u n) = (mirD C.1, mirD C.2.1, mirD C.2.2) := by
  have ho' := mirO_lt o ho
  have hmd : 0 ≤ mirD (dir : Int) ∧ mirD (dir : Int) ≤ 2 := by rcases hd1 with rfl | rfl <;> decide
  have hok : Ok n f (dir : Int) (o : Int) c u d := ⟨hn2, hn, hf, by omega, by omega, hc, hu, hd⟩
  have hok' : Ok n (n - 1 - f) (mirD (dir : Int)) ((mirO o : Nat) : Int) (mirW n c n) (mirW n d n) (mirW n u n) := ⟨hn2, hn, by omega, hmd, by omega, W_mirW _ _ _, W_mirW _ _ _, W_mirW _ _ _⟩
  obtain ⟨ab, be, s, hC, _⟩ := Choose_ch hok
  obtain ⟨ab', be', s', hC', _⟩ := Choose_ch hok'
  obtain ⟨m1, m2', m3'⟩ := mirBits hn hc hu hd hf
  obtain ⟨g1, g2⟩ := mir_scene hn hc hu hd hf s s'
  refine ⟨_, hC, S6 dir (by omega) o ho _ _ _ _ _ _, ?_⟩
  rw [hC', m1, m2', m3', g1, g2]
  rcases hd1 with rfl | rfl
  · exact (S5 o ho _ _ _ _ _ _ _).1
  · exact (S5 o ho _ _ _ _ _ _ _).2
end
theorem law_mirrors (x : ct4.p.den) (h : InR ct4.p x) : ct4.F x = true := by
  obtain ⟨m, ⟨⟨dir, o⟩, fl⟩, c, u, d⟩ := x
  obtain ⟨hm, _, hc, hu, hd⟩ := h
  have hc := W_of hc
  have hu := W_of hu
  have hd := W_of hd
  have hm := u8_of hm
  show F4 (m, ((dir, o), fl), c, u, d) = true
  unfold F4
  simp only
  obtain ⟨n, hn2, hn, hne⟩ := floors31 hm.1 hm.2
  obtain ⟨f, hf, hfe⟩ := floor_of fl (n := n) (by omega) hn
  rw [hne, hfe, mir_val hn2 hn]
  have h17 : ∀ dr : Nat, dr = 1 ∨ dr = 2 → R4_17 ((n : Int), (f : Int), [0, 2, 1], [0, 2, 1, 3], (dr : Int), (c, u, d), mirW n c n, mirW n d n, mirW n u n) 0 = none := fun dr hdr => ret_none (fun x => 0 ≤ x) (fun x hx => by
    unfold st4_17 K4_17_1
    simp only
    cases hl : decide (x < 8) with
    | false => rw [cond_false]; trivial
    | true =>
      rw [decide_eq_true_eq] at hl
      obtain ⟨o, rfl⟩ := Int.eq_ofNat_of_zero_le hx
      rw [cond_true, mirO_val o (by omega), nth_back dr (by omega), wrap_i64_of (x := (n : Int) - 1) (by omega) (by omega), wrap_i64_of (x := (n : Int) - 1 - f) (by omega) (by omega), show (n : Int) - 1 - f = ((n - 1 - f : Nat) : Int) from by omega]
      obtain ⟨C, e1, hb, e2⟩ := choose_mir hn2 hn hc hu hd hf hdr (show o < 8 by omega)
      rw [e1, e2]
      obtain ⟨p, q, r⟩ := C
      simp only at hb ⊢
      obtain ⟨p, rfl⟩ := Int.eq_ofNat_of_zero_le hb.1
      obtain ⟨q, rfl⟩ := Int.eq_ofNat_of_zero_le hb.2.2.1
      obtain ⟨r, rfl⟩ := Int.eq_ofNat_of_zero_le hb.2.2.2.2.1
      rw [nth_turn p (by omega), nth_back q (by omega), nth_back r (by omega)]
      rw [show decide ((p : Int) < 0) = false from by simp, show decide ((p : Int) > 3) = false from by simp; omega, show decide ((q : Int) < 0) = false from by simp, show decide ((q : Int) > 2) = false from by simp; omega, show decide ((r : Int) < 0) = false from by simp, show decide ((r : Int) > 2) = false from by simp; omega]
      simp only [beq_self_eq_true, Bool.and_self, Bool.not_true, Bool.or_self, cond_false]
      show 0 ≤ IntKind.i64.wrap ((o : Int) + 1)
      rw [wrap_i64_of (by omega) (by omega)]; omega) _ _ (by omega)
  have h14 : R4_14 ((n : Int), (f : Int), [0, 2, 1], [0, 2, 1, 3], (c, u, d), mirW n c n, mirW n d n, mirW n u n) 1 = none := ret_none (fun x => 1 ≤ x) (fun x hx => by
    unfold st4_14
    simp only
    cases hl : decide (x < 3) with
    | false => rw [cond_false]; trivial
    | true =>
      rw [decide_eq_true_eq] at hl
      obtain ⟨dr, rfl⟩ := Int.eq_ofNat_of_zero_le (show 0 ≤ x by omega)
      rw [cond_true, h17 dr (by omega), optR_none]
      show 1 ≤ IntKind.i64.wrap ((dr : Int) + 1)
      rw [wrap_i64_of (by omega) (by omega)]; omega) _ _ (by omega)
  rw [h14, optR_none, sane_true]
end Go.Proofs.YtidnlehjabhclaaDoor.Sp
