/- Cost: the laws (own work). -/
import Derived.Test.YtjdaplmlmmnokaaDoorKb
namespace Go.Proofs.YtjdaplmlmmnokaaDoor.Sp
open Go Sy
set_option linter.unusedVariables false
set_option linter.unusedSimpArgs false
set_option maxRecDepth 10000

theorem next_ok {x m : Int} (h : 0 ≤ x ∧ x ≤ 1000) : 0 ≤ IntKind.i64.wrap (x + 1) := by rw [wrap_i64_of (x := x + 1) (by omega) (by omega)]; omega
theorem law_paths (x : ct3.p.den) (h : InR ct3.p x) : ct3.F x = true := by
  obtain ⟨m, ⟨c, u, d⟩, w1, w2, w3, w4⟩ := x
  obtain ⟨_, ⟨hc, hu, hd⟩, _⟩ := h
  have hc := W_of hc
  have hu := W_of hu
  have hd := W_of hd
  show F3 (m, (c, u, d), w1, w2, w3, w4) = true
  unfold F3
  simp only
  generalize IntKind.i64.wrap ((2 : Int) + (IntKind.i64.wrap (Int.tmod m (12 : Int)))) = n
  have h13 : ∀ (n a b f : Int) (c u d : Int), W c → W u → W d → R3_13 (n, a, b, f, c, u, d) 0 = none := fun n a b f c u d hc hu hd => ret_none (fun _ => True) (fun x _ => by
    unfold st3_13
    simp only
    rw [path_eq n a b f x hc hu hd]
    cases decide (x < 4) <;> simp) _ _ trivial
  have h10 : ∀ (n a b : Int) (c u d : Int), W c → W u → W d → R3_10 (n, a, b, c, u, d) (-1) = none := fun n a b c u d hc hu hd => ret_none (fun _ => True) (fun x _ => by
    unfold st3_10
    simp only
    rw [h13 n a b x c u d hc hu hd, optR_none]
    cases decide (x ≤ n) <;> simp) _ _ trivial
  have h7 : ∀ (n a : Int) (c u d : Int), W c → W u → W d → R3_7 (n, a, c, u, d) (-1) = none := fun n a c u d hc hu hd => ret_none (fun _ => True) (fun x _ => by
    unfold st3_7
    simp only
    rw [h10 n a x c u d hc hu hd, optR_none]
    cases decide (x < 4) <;> simp) _ _ trivial
  have h4 : ∀ (n : Int) (c u d : Int), W c → W u → W d → R3_4 (n, c, u, d) (-1) = none := fun n c u d hc hu hd => ret_none (fun _ => True) (fun x _ => by
    unfold st3_4
    simp only
    rw [h7 n x c u d hc hu hd, optR_none]
    cases decide (x ≤ n) <;> simp) _ _ trivial
  rw [h4 _ _ _ _ (W_and _ _) (W_and _ _) (W_and _ _), optR_none, path_eq _ _ _ _ _ hc hu hd, count_eq _ hc hu hd, count_eq _ hc hu hd, sane_true]
  simp
theorem floorsU (p : Int) : ∃ n : Nat, 2 ≤ n ∧ n ≤ 32 ∧ IntKind.i64.wrap ((2 : Int) + (IntKind.i64.wrap (Int.tmod (IntKind.u64.wrap p) (31 : Int)))) = (n : Int) := by
  have h0 : 0 ≤ IntKind.u64.wrap p := by rw [IntKind.wrap_u64]; omega
  rw [tmod_lit, if_pos h0]
  refine ⟨(2 + IntKind.u64.wrap p % 31).toNat, by omega, by omega, ?_⟩
  rw [wrap_i64_of (x := IntKind.u64.wrap p % 31) (by omega) (by omega), wrap_i64_of (by omega) (by omega)]
  omega
theorem bit_ext {a b : Int} (ha : W a) (hb : W b) (i : Nat) : bit (or32 a b) i = (bit a i || bit b i) := by
  rcases Nat.lt_or_ge i 32 with hi | hi
  · exact bit_or ha.1 hb.1 i hi
  · rw [bit_hi (W_or _ _) hi, bit_hi ha hi, bit_hi hb hi]; rfl
theorem law_bounds (x : ct4.p.den) (h : InR ct4.p x) : ct4.F x = true := by
  obtain ⟨⟨w1, w2, w3, w4⟩, ⟨c, u, d⟩, c', u', d'⟩ := x
  obtain ⟨_, ⟨hc, hu, hd⟩, hc', hu', hd'⟩ := h
  have hc := W_of hc
  have hu := W_of hu
  have hd := W_of hd
  have hc' := W_of hc'
  have hu' := W_of hu'
  have hd' := W_of hd'
  show F4 ((w1, w2, w3, w4), (c, u, d), c', u', d') = true
  unfold F4
  simp only
  obtain ⟨n, hn2, hn, hne⟩ := floorsU w4
  obtain ⟨fr, hfr, hfe⟩ := floor_of w1 (n := n) (by omega) hn
  rw [hne, hfe]
  have key : ∀ (sw : Int) (f : Nat) (dr : Int), 0 ≤ sw ∧ sw ≤ 2 → Cl n f dr → ∃ p q e : Int, F7 ((n : Int), (fr : Int), sw, (c, u, d), (f : Int), dr) = p ∧ F7 ((n : Int), (fr : Int), sw, (or32 c c', or32 u u', or32 d d'), (f : Int), dr) = q ∧ F7 ((n : Int), (fr : Int), sw, (0, 0, 0), (f : Int), dr) = e ∧ (f : Int) - fr ≤ p ∧ (fr : Int) - f ≤ p ∧ p ≤ 3 * n ∧ p ≤ q ∧ e ≤ p := by
    intro sw f dr hsw hcl
    obtain ⟨L, H, hl, hL, hH, e1⟩ := path_val hn2 hn hc hu hd hfr (fl := f) hsw hcl
    obtain ⟨L', H', hl', hL', hH', e2⟩ := path_val (c := or32 c c') (u := or32 u u') (d := or32 d d') hn2 hn (W_or _ _) (W_or _ _) (W_or _ _) hfr (fl := f) hsw hcl
    obtain ⟨L0, H0, hl0, hL0, hH0, e3⟩ := path_val (c := 0) (u := 0) (d := 0) hn2 hn W.zero W.zero W.zero hfr (fl := f) hsw hcl
    refine ⟨_, _, _, e1, e2, e3, ?_⟩
    have bfr := hl.b fr (.inr (.inl rfl)); have bfl := hl.b f (.inr (.inr rfl))
    have bfr0 := hl0.b fr (.inr (.inl rfl)); have bfl0 := hl0.b f (.inr (.inr rfl))
    have m1 := hl.mono hl' (fun i hi => by
      unfold isAt at hi ⊢
      rw [bit_cA hn hc, bit_cU hn hu, bit_cD hn hd] at hi
      rw [bit_cA hn (W_or _ _), bit_cU hn (W_or _ _), bit_cD hn (W_or _ _), bit_ext hc hc', bit_ext hu hu', bit_ext hd hd']
      simp only [Bool.or_eq_true, Bool.and_eq_true] at hi ⊢
      rcases hi with (h | h) | h
      · exact .inl (.inl ⟨.inl h.1, h.2⟩)
      · exact .inl (.inr ⟨.inl h.1, h.2⟩)
      · exact .inr ⟨.inl h.1, h.2⟩)
    have m0 := hl0.mono hl (fun i hi => by
      unfold isAt at hi
      rw [bit_cA hn W.zero, bit_cU hn W.zero, bit_cD hn W.zero, bit_zero] at hi
      simp at hi)
    have b1 := pv_bounds (n := n) (fr := fr) (sw := sw) (fl := f) (dr := dr) (L := L) (H := H) (by omega) (by omega) (by omega) (by omega)
    have b2 := pv_mono (fr := fr) (sw := sw) (fl := f) (dr := dr) (L := L) (H := H) (L' := L') (H' := H') (by omega) (by omega) (by omega) (by omega)
    have b3 := pv_mono (fr := fr) (sw := sw) (fl := f) (dr := dr) (L := L0) (H := H0) (L' := L) (H' := H) (by omega) (by omega) (by omega) (by omega)
    exact ⟨b1.1, b1.2.1, b1.2.2, b2, b3⟩
  have h11 : ∀ (sw : Int) (f : Nat), 0 ≤ sw ∧ sw ≤ 2 → f < n → R4_11 ((n : Int), (fr : Int), sw, (f : Int), (c, u, d), or32 c c', or32 u u', or32 d d') 1 = none := fun sw f hsw hf => ret_none (fun x => 1 ≤ x) (fun x hx => by
    unfold st4_11
    simp only
    cases hl : decide (x ≤ 2) with
    | false => rw [cond_false]; trivial
    | true =>
      rw [decide_eq_true_eq] at hl
      have hx1 : 1 ≤ IntKind.i64.wrap (x + 1) := by rw [wrap_i64_of (x := x + 1) (by omega) (by omega)]; omega
      rw [cond_true, wrap_i64_of (x := (n : Int) - 1) (by omega) (by omega)]
      cases hg : (((x == (1 : Int)) && ((f : Int) == (n : Int) - 1)) || ((x == (2 : Int)) && ((f : Int) == (0 : Int)))) with
      | true => rw [cond_true]; exact hx1
      | false =>
        rw [cond_false]
        have hcl : Cl n f x := by
          simp only [Bool.or_eq_false_iff, Bool.and_eq_false_iff, beq_eq_false_iff_ne, ne_eq] at hg
          unfold Cl; omega
        obtain ⟨p, q, e, e1, e2, e3, b1, b2, b3, b4, b5⟩ := key sw f x hsw hcl
        rw [e1, e2, e3, wrap_i64_of (x := (f : Int) - fr) (by omega) (by omega), wrap_i64_of (x := (fr : Int) - f) (by omega) (by omega), wrap_i64_of (x := 3 * (n : Int)) (by omega) (by omega)]
        rw [show decide (p < (f : Int) - fr) = false from by simp; omega, show decide (p < (fr : Int) - f) = false from by simp; omega, show decide (p > 3 * (n : Int)) = false from by simp; omega, show decide (q < p) = false from by simp; omega, show decide (e > p) = false from by simp; omega]
        exact hx1) _ _ (by omega)
  have h8 : ∀ sw : Int, 0 ≤ sw ∧ sw ≤ 2 → R4_8 ((n : Int), (fr : Int), sw, (c, u, d), or32 c c', or32 u u', or32 d d') 0 = none := fun sw hsw => ret_none (fun x => 0 ≤ x) (fun x hx => by
    unfold st4_8
    simp only
    cases hl : decide (x < (n : Int)) with
    | false => rw [cond_false]; trivial
    | true =>
      rw [decide_eq_true_eq] at hl
      obtain ⟨f, rfl⟩ := Int.eq_ofNat_of_zero_le hx
      rw [cond_true, h11 sw f hsw (by omega), optR_none]
      show 0 ≤ IntKind.i64.wrap ((f : Int) + 1)
      rw [wrap_i64_of (by omega) (by omega)]; omega) _ _ (by omega)
  have h5 : R4_5 ((n : Int), (fr : Int), (c, u, d), or32 c c', or32 u u', or32 d d') 0 = none := ret_none (fun x => 0 ≤ x) (fun x hx => by
    unfold st4_5
    simp only
    cases hl : decide (x < 3) with
    | false => rw [cond_false]; trivial
    | true =>
      rw [decide_eq_true_eq] at hl
      rw [cond_true, h8 x (by omega), optR_none]
      show 0 ≤ IntKind.i64.wrap (x + 1)
      rw [wrap_i64_of (by omega) (by omega)]; omega) _ _ (by omega)
  rw [h5, optR_none, sane_true]
/-- A set upside down, i floors of it. -/
def mirW (n : Nat) (c : Int) : Nat → Int
  | 0 => 0
  | i + 1 => or32 (mirW n c i) (shl32 (and32 (shr32 c (i : Int)) 1) ((n - 1 - i : Nat) : Int))
theorem W_mirW (n : Nat) (c : Int) : ∀ i, W (mirW n c i)
  | 0 => W.zero
  | i + 1 => W_or _ _
theorem and_one_bit {x : Int} (hx : W x) (j : Nat) (hj : j < 32) : bit (and32 x 1) j = (decide (j = 0) && bit x 0) := by
  rw [bit_and hx.1 (by omega) j hj, bit1 j hj]
  rcases Nat.eq_zero_or_pos j with h | h
  · subst h; simp
  · rw [show decide (j = 0) = false from by simp; omega, Bool.and_false, Bool.false_and]
theorem bit_mirW {n : Nat} (hn : n ≤ 32) {c : Int} (hc : W c) : ∀ i, i ≤ n → ∀ j, j < 32 → bit (mirW n c i) j = (decide (n - i ≤ j ∧ j < n) && bit c (n - 1 - j))
  | 0, _, j, hj => by
    rw [show mirW n c 0 = 0 from rfl, bit_zero]
    rw [show decide (n - 0 ≤ j ∧ j < n) = false from by simp, Bool.false_and]
  | i + 1, hi, j, hj => by
    rw [show mirW n c (i + 1) = or32 (mirW n c i) (shl32 (and32 (shr32 c (i : Int)) 1) ((n - 1 - i : Nat) : Int)) from rfl]
    rw [bit_or (W_mirW n c i).1 (W_shl _ _).1 j hj, bit_mirW hn hc i (by omega) j hj, bit_shl (W_and _ _).1 _ j hj]
    rcases Nat.lt_trichotomy j (n - 1 - i) with h | h | h
    · rw [show decide (n - 1 - i ≤ j) = false from by simp; omega, show decide (n - i ≤ j ∧ j < n) = false from by simp; omega, show decide (n - (i + 1) ≤ j ∧ j < n) = false from by simp; omega]
      simp
    · subst h
      rw [show n - 1 - i - (n - 1 - i) = 0 from by omega, and_one_bit (W_shr hc _ (by omega)) 0 (by omega), bit_shr hc i 0]
      rw [show decide (n - 1 - i ≤ n - 1 - i) = true from by simp, show decide (n - i ≤ n - 1 - i ∧ n - 1 - i < n) = false from by simp; omega, show decide (n - (i + 1) ≤ n - 1 - i ∧ n - 1 - i < n) = true from by simp; omega]
      rw [show n - 1 - (n - 1 - i) = i from by omega]
      simp
    · rw [and_one_bit (W_shr hc _ (by omega)) (j - (n - 1 - i)) (by omega), show decide (j - (n - 1 - i) = 0) = false from by simp; omega]
      rw [Bool.false_and, Bool.and_false, Bool.or_false]
      rw [show decide (n - i ≤ j ∧ j < n) = decide (n - (i + 1) ≤ j ∧ j < n) from by rw [Bool.eq_iff_iff]; simp; omega]
theorem mir_val {n : Nat} (hn2 : 2 ≤ n) (hn : n ≤ 32) (c u d : Int) : (G5_4 ((n : Int), c, u, d) (0, 0, 0, 0)).2 = (mirW n c n, mirW n d n, mirW n u n) := by
  have hs : ∀ i, i < n → ∃ k', st5_4 ((n : Int), c, u, d) ((fun i : Nat => ((i : Int), mirW n c i, mirW n d i, mirW n u i)) i) = .next k' ((fun i : Nat => ((i : Int), mirW n c i, mirW n d i, mirW n u i)) (i + 1)) := by
    intro i hi
    refine ⟨((n : Int), c, u, d), ?_⟩
    unfold st5_4
    simp only
    rw [show decide ((i : Int) < (n : Int)) = true from by simp; omega, cond_true, uwrap i (by omega), wrap_i64_of (x := (n : Int) - 1) (by omega) (by omega), wrap_i64_of (x := (n : Int) - 1 - i) (by omega) (by omega), wrap_i64_of (x := (i : Int) + 1) (by omega) (by omega),
      show (n : Int) - 1 - i = ((n - 1 - i : Nat) : Int) from by omega, uwrap (n - 1 - i) (by omega)]
    rfl
  have hb : st5_4 ((n : Int), c, u, d) ((fun i : Nat => ((i : Int), mirW n c i, mirW n d i, mirW n u i)) n) = .brk ((n : Int), c, u, d) ((fun i : Nat => ((i : Int), mirW n c i, mirW n d i, mirW n u i)) n) := by
    unfold st5_4
    simp only
    rw [show decide ((n : Int) < (n : Int)) = false from by simp, cond_false]
  have he := end_row_brk (fun i : Nat => ((i : Int), mirW n c i, mirW n d i, mirW n u i)) n hs hb (fuel := Nat.succ (mu5_4 ((n : Int), c, u, d) (0, 0, 0, 0))) (by
    show n < Nat.succ ((n : Int) - 0).toNat
    omega)
  have hG : G5_4 ((n : Int), c, u, d) (0, 0, 0, 0) = ((n : Int), mirW n c n, mirW n d n, mirW n u n) := by
    first | exact he.1 | exact he
  rw [hG]

section
variable {n f : Nat} {c u d : Int}
theorem mirS (hn : n ≤ 32) (hc : W c) (hu : W u) (hd : W d) {j : Nat} (hj : j < n) : isAt n (mirW n c n) (mirW n d n) (mirW n u n) (n - 1 - j) = isAt n c u d j := by
  unfold isAt
  rw [bit_cA hn (W_mirW _ _ _), bit_cU hn (W_mirW _ _ _), bit_cD hn (W_mirW _ _ _), bit_cA hn hc, bit_cU hn hu, bit_cD hn hd]
  rw [bit_mirW hn hc n (by omega) _ (by omega), bit_mirW hn hd n (by omega) _ (by omega), bit_mirW hn hu n (by omega) _ (by omega)]
  rw [show n - 1 - (n - 1 - j) = j from by omega, show decide (n - n ≤ n - 1 - j ∧ n - 1 - j < n) = true from by simp; omega]
  rw [show decide (n - 1 - j < n) = true from by simp; omega, show decide (j < n) = true from by simp; omega]
  rw [show decide (n - 1 - j + 1 < n) = decide (0 < j ∧ j < n) from by rw [Bool.eq_iff_iff]; simp; omega, show decide (0 < n - 1 - j ∧ n - 1 - j < n) = decide (j + 1 < n) from by rw [Bool.eq_iff_iff]; simp; omega]
  simp only [Bool.true_and, Bool.and_true]
  rw [Bool.or_assoc, Bool.or_assoc]; congr 1; exact Bool.or_comm _ _

end
theorem HL.mir {n : Nat} {c u d : Int} (hn : n ≤ 32) (hc : W c) (hu : W u) (hd : W d) {fr fl L H : Nat} (hfr : fr < n) (hfl : fl < n) (hLn : L < n) (hHn : H < n) (a : HL n c u d fr fl L H) : HL n (mirW n c n) (mirW n d n) (mirW n u n) (n - 1 - fr) (n - 1 - fl) (n - 1 - H) (n - 1 - L) := by
  have key : ∀ i, i < n → (Mem n (mirW n c n) (mirW n d n) (mirW n u n) (n - 1 - fr) (n - 1 - fl) (n - 1 - i) ↔ Mem n c u d fr fl i) := fun i hi => by
    unfold Mem
    rw [mirS hn hc hu hd hi]
    constructor
    · rintro (h | h | h)
      · exact .inl h
      · exact .inr (.inl (by omega))
      · exact .inr (.inr (by omega))
    · rintro (h | h | h)
      · exact .inl h
      · exact .inr (.inl (by omega))
      · exact .inr (.inr (by omega))
  refine ⟨(key L hLn).2 a.l, (key H hHn).2 a.h, fun i hi => ?_⟩
  have hin : i < n := by
    rcases hi with h | h | h
    · exact isAt_lt hn (W_mirW _ _ _) (W_mirW _ _ _) (W_mirW _ _ _) h
    · omega
    · omega
  have hi' : Mem n (mirW n c n) (mirW n d n) (mirW n u n) (n - 1 - fr) (n - 1 - fl) (n - 1 - (n - 1 - i)) := by rw [show n - 1 - (n - 1 - i) = i from by omega]; exact hi
  have := a.b _ ((key (n - 1 - i) (by omega)).1 hi')
  omega
theorem nth_back : nthT [(0 : Int), (2 : Int), (1 : Int)] 0 = 0 ∧ nthT [(0 : Int), (2 : Int), (1 : Int)] 1 = 2 ∧ nthT [(0 : Int), (2 : Int), (1 : Int)] 2 = 1 := by decide
theorem pv_mir {n fr sw fl dr L H : Int} (hsw : sw = 0 ∨ sw = 1 ∨ sw = 2) (hdr : dr = 1 ∨ dr = 2) : pv (n - 1 - fr) (nthT [(0 : Int), (2 : Int), (1 : Int)] sw) (n - 1 - fl) (nthT [(0 : Int), (2 : Int), (1 : Int)] dr) (n - 1 - H) (n - 1 - L) = pv fr sw fl dr L H := by
  obtain ⟨b0, b1, b2⟩ := nth_back
  rcases hsw with rfl | rfl | rfl <;> rcases hdr with rfl | rfl <;> simp only [b0, b1, b2] <;> unfold pv <;> (repeat' split) <;> omega
theorem path_mir {n : Nat} (hn2 : 2 ≤ n) (hn : n ≤ 32) {c u d : Int} (hc : W c) (hu : W u) (hd : W d) {fr fl : Nat} (hfr : fr < n) (hfl : fl < n) {sw dr : Int} (hsw : 0 ≤ sw ∧ sw ≤ 2) (hdr : 1 ≤ dr ∧ dr ≤ 2) :
    F7 ((n : Int), (fr : Int), sw, (c, u, d), (fl : Int), dr) = F7 ((n : Int), ((n - 1 - fr : Nat) : Int), nthT [(0 : Int), (2 : Int), (1 : Int)] sw, (mirW n c n, mirW n d n, mirW n u n), ((n - 1 - fl : Nat) : Int), nthT [(0 : Int), (2 : Int), (1 : Int)] dr) := by
  obtain ⟨b0, b1, b2⟩ := nth_back
  have hs : sw = 0 ∨ sw = 1 ∨ sw = 2 := by omega
  have hr : dr = 1 ∨ dr = 2 := by omega
  have hsb : 0 ≤ nthT [(0 : Int), (2 : Int), (1 : Int)] sw ∧ nthT [(0 : Int), (2 : Int), (1 : Int)] sw ≤ 2 := by
    rcases hs with rfl | rfl | rfl
    · rw [b0]; omega
    · rw [b1]; omega
    · rw [b2]; omega
  have hcl : Cl n ((n - 1 - fl : Nat) : Int) (nthT [(0 : Int), (2 : Int), (1 : Int)] dr) ↔ Cl n fl dr := by
    unfold Cl
    rcases hr with rfl | rfl
    · rw [b1]; omega
    · rw [b2]; omega
  by_cases h : Cl n fl dr
  · obtain ⟨L, H, hl, hL, hH, e1⟩ := path_val hn2 hn hc hu hd hfr (fl := fl) hsw h
    obtain ⟨L', H', hl', hL', hH', e2⟩ := path_val hn2 hn (W_mirW n c n) (W_mirW n d n) (W_mirW n u n) (fr := n - 1 - fr) (by omega) (fl := n - 1 - fl) hsb (hcl.2 h)
    obtain ⟨rfl, rfl⟩ := hl'.uniq (hl.mir hn hc hu hd hfr hfl hL hH)
    rw [e1, e2, ← pv_mir (n := n) hs hr]
    rw [show ((n - 1 - fr : Nat) : Int) = (n : Int) - 1 - fr from by omega, show ((n - 1 - fl : Nat) : Int) = (n : Int) - 1 - fl from by omega, show ((n - 1 - L : Nat) : Int) = (n : Int) - 1 - L from by omega, show ((n - 1 - H : Nat) : Int) = (n : Int) - 1 - H from by omega]
  · rw [path_bad (fun hp => h hp.2.2.2), path_bad (fun hp => h (hcl.1 hp.2.2.2))]
theorem law_mirrors (x : ct5.p.den) (h : InR ct5.p x) : ct5.F x = true := by
  obtain ⟨m, ⟨c, u, d⟩, w1, w2, w3, w4⟩ := x
  obtain ⟨hm, ⟨hc, hu, hd⟩, _⟩ := h
  have hc := W_of hc
  have hu := W_of hu
  have hd := W_of hd
  have hm := u8_of hm
  show F5 (m, (c, u, d), w1, w2, w3, w4) = true
  unfold F5
  simp only
  obtain ⟨n, hn2, hn, hne⟩ := floors31 hm.1 hm.2
  obtain ⟨fr, hfr, hfe⟩ := floor_of w1 (n := n) (by omega) hn
  obtain ⟨fl, hfl, hle⟩ := floor_of w3 (n := n) (by omega) hn
  rw [hne, hfe, hle, mir_val hn2 hn]
  have h16 : ∀ sw : Int, 0 ≤ sw ∧ sw ≤ 2 → R5_16 ((n : Int), [0, 2, 1], (fr : Int), (fl : Int), sw, (c, u, d), mirW n c n, mirW n d n, mirW n u n) 1 = none := fun sw hsw => ret_none (fun x => 1 ≤ x) (fun x hx => by
    unfold st5_16
    simp only
    cases hl : decide (x ≤ 2) with
    | false => rw [cond_false]; trivial
    | true =>
      rw [decide_eq_true_eq] at hl
      rw [cond_true, wrap_i64_of (x := (n : Int) - 1) (by omega) (by omega), wrap_i64_of (x := (n : Int) - 1 - fr) (by omega) (by omega), wrap_i64_of (x := (n : Int) - 1 - fl) (by omega) (by omega),
        show (n : Int) - 1 - fr = ((n - 1 - fr : Nat) : Int) from by omega, show (n : Int) - 1 - fl = ((n - 1 - fl : Nat) : Int) from by omega, ← path_mir hn2 hn hc hu hd hfr hfl hsw ⟨hx, hl⟩]
      rw [bne_self_eq_false, cond_false]
      show 1 ≤ IntKind.i64.wrap (x + 1)
      rw [wrap_i64_of (by omega) (by omega)]; omega) _ _ (by omega)
  have h13 : R5_13 ((n : Int), [0, 2, 1], (fr : Int), (fl : Int), (c, u, d), mirW n c n, mirW n d n, mirW n u n) 0 = none := ret_none (fun x => 0 ≤ x) (fun x hx => by
    unfold st5_13
    simp only
    cases hl : decide (x < 3) with
    | false => rw [cond_false]; trivial
    | true =>
      rw [decide_eq_true_eq] at hl
      rw [cond_true, h16 x (by omega), optR_none]
      show 0 ≤ IntKind.i64.wrap (x + 1)
      rw [wrap_i64_of (by omega) (by omega)]; omega) _ _ (by omega)
  rw [h13, optR_none, sane_true]
end Go.Proofs.YtjdaplmlmmnokaaDoor.Sp
