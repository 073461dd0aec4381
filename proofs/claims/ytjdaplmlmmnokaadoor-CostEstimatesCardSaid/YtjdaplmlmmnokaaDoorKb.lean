/- Cost: the reference, and the laws (own work). -/
import Derived.Test.YtjdaplmlmmnokaaDoorKa
import Derived.Test.YtjdaplmlmmnokaaDoorBp
import Derived.Test.YtjdaplmlmmnokaaDoorTr
namespace Go.Proofs.YtjdaplmlmmnokaaDoor.Sp
open Go Sy
set_option linter.unusedVariables false
set_option linter.unusedSimpArgs false
set_option maxRecDepth 10000

section
variable {n : Nat} {c u d : Int}
theorem is0 (hn : n ≤ 32) (hc : W c) (i : Nat) (hi : i < n) : F22 ((n : Int), (c, u, d), (i : Int), 0) = bit (cA n c) i := by
  unfold F22
  simp only
  rw [show ((0 : Int) == 1) = false from rfl, show ((0 : Int) == 2) = false from rfl, cond_false, cond_false, uwrap i (by omega), ask_bit hc i, bit_cA hn hc, show decide (i < n) = true from by simp; omega, Bool.and_true]
theorem is1 (hn : n ≤ 32) (hu : W u) (i : Nat) (hi : i < n) : F22 ((n : Int), (c, u, d), (i : Int), 1) = bit (cU n u) i := by
  unfold F22
  simp only
  rw [show ((1 : Int) == 1) = true from rfl, cond_true, uwrap i (by omega), ask_bit hu i, bit_cU hn hu, wrap_i64_of (x := (n : Int) - 1) (by omega) (by omega), Bool.and_comm]
  congr 1
  rw [Bool.eq_iff_iff]; simp; omega
theorem is2 (hn : n ≤ 32) (hd : W d) (i : Nat) (hi : i < n) : F22 ((n : Int), (c, u, d), (i : Int), 2) = bit (cD n d) i := by
  unfold F22
  simp only
  rw [show ((2 : Int) == 1) = false from rfl, show ((2 : Int) == 2) = true from rfl, cond_false, cond_true, uwrap i (by omega), ask_bit hd i, bit_cD hn hd, Bool.and_comm]
  congr 1
  rw [Bool.eq_iff_iff]; simp; omega
theorem rends (hn : n ≤ 32) (hc : W c) (hu : W u) (hd : W d) {fr fl : Nat} (hfr : fr < n) (hfl : fl < n) :
    ∃ H L : Nat, (G8_7 ((n : Int), c, u, d) (max (fr : Int) fl, min (fr : Int) fl, 0)).1 = (H : Int) ∧ (G8_7 ((n : Int), c, u, d) (max (fr : Int) fl, min (fr : Int) fl, 0)).2.1 = (L : Int) ∧ HL n c u d fr fl L H := by
  refine loop_spec (ρ := Int) (step := st8_7) (k := ((n : Int), c, u, d)) (fun x => ∃ hi lo i : Nat, x = ((hi : Int), (lo : Int), (i : Int)) ∧ i ≤ n ∧ Mem n c u d fr fl hi ∧ Mem n c u d fr fl lo ∧ ∀ j, ((isAt n c u d j = true ∧ j < i) ∨ j = fr ∨ j = fl) → lo ≤ j ∧ j ≤ hi)
    (fun x => ((n : Int) - x.2.2).toNat) (fun _ y => ∃ H L : Nat, y.1 = (H : Int) ∧ y.2.1 = (L : Int) ∧ HL n c u d fr fl L H) ?_ _ _ ?_ (Nat.lt_succ_self _)
  · rintro x ⟨hi, lo, i, rfl, hin, mh, ml, hb⟩
    unfold st8_7
    simp only
    rcases Nat.lt_or_ge i n with hlt | hge
    · rw [show decide ((i : Int) < (n : Int)) = true from by simp; omega, cond_true, is0 hn hc i hlt, is1 hn hu i hlt, is2 hn hd i hlt, wrap_i64_of (x := (i : Int) + 1) (by omega) (by omega)]
      rw [show ((bit (cA n c) i || bit (cU n u) i) || bit (cD n d) i) = isAt n c u d i from rfl]
      cases hat : isAt n c u d i with
      | true =>
        rw [cond_true]
        refine ⟨⟨max hi i, min lo i, i + 1, by rw [Prod.mk.injEq, Prod.mk.injEq]; omega, by omega, ?_, ?_, ?_⟩, by simp only; omega⟩
        · rcases Nat.le_total hi i with h | h
          · rw [Nat.max_eq_right h]; exact .inl hat
          · rw [Nat.max_eq_left h]; exact mh
        · rcases Nat.le_total lo i with h | h
          · rw [Nat.min_eq_left h]; exact ml
          · rw [Nat.min_eq_right h]; exact .inl hat
        · rintro j (⟨hj, hji⟩ | hj)
          · rcases Nat.lt_or_ge j i with h | h
            · have := hb j (.inl ⟨hj, h⟩); omega
            · omega
          · have := hb j (.inr hj); omega
      | false =>
        rw [cond_false]
        refine ⟨⟨hi, lo, i + 1, by rw [Prod.mk.injEq, Prod.mk.injEq]; omega, by omega, mh, ml, ?_⟩, by simp only; omega⟩
        rintro j (⟨hj, hji⟩ | hj)
        · rcases Nat.lt_or_ge j i with h | h
          · exact hb j (.inl ⟨hj, h⟩)
          · have : j = i := by omega
            rw [this, hat] at hj; cases hj
        · exact hb j (.inr hj)
    · rw [show decide ((i : Int) < (n : Int)) = false from by simp; omega, cond_false]
      refine ⟨hi, lo, rfl, rfl, mh, ml, fun j hj => ?_⟩
      rcases hj with hj | hj
      · exact hb j (.inl ⟨hj, by have := isAt_lt hn hc hu hd hj; omega⟩)
      · exact hb j (.inr hj)
  · refine ⟨max fr fl, min fr fl, 0, by rw [Prod.mk.injEq, Prod.mk.injEq]; omega, by omega, ?_, ?_, fun j hj => by omega⟩
    · rcases Nat.le_total fr fl with h | h
      · rw [Nat.max_eq_right h]; exact .inr (.inr rfl)
      · rw [Nat.max_eq_left h]; exact .inr (.inl rfl)
    · rcases Nat.le_total fr fl with h | h
      · rw [Nat.min_eq_left h]; exact .inr (.inl rfl)
      · rw [Nat.min_eq_right h]; exact .inr (.inr rfl)
set_option maxHeartbeats 2000000 in
theorem rpath_val (hn2 : 2 ≤ n) (hn : n ≤ 32) (hc : W c) (hu : W u) (hd : W d) {fr fl : Nat} (hfr : fr < n) {sw dr : Int} (hs : 0 ≤ sw ∧ sw ≤ 2) (hcl : Cl n fl dr) :
    ∃ L H : Nat, HL n c u d fr fl L H ∧ F8 ((n : Int), (fr : Int), sw, (c, u, d), (fl : Int), dr) = pv fr sw fl dr L H := by
  have hfl : fl < n := by unfold Cl at hcl; omega
  obtain ⟨H, L, e1, e2, hl⟩ := rends hn hc hu hd hfr hfl
  refine ⟨L, H, hl, ?_⟩
  have hm : ∀ i, Mem n c u d fr fl i → i < n := fun i h => by
    rcases h with h | h | h
    · exact isAt_lt hn hc hu hd h
    · omega
    · omega
  have hHn := hm _ hl.h; have hLn := hm _ hl.l
  unfold F8
  simp only
  have g : ((((((decide ((n : Int) < (2 : Int))) || (decide ((n : Int) > (32 : Int)))) || (decide ((fr : Int) < (0 : Int)))) || (decide ((fr : Int) ≥ (n : Int)))) || (decide (sw < (0 : Int)))) || (decide (sw > (2 : Int)))) = false := by
    simp only [Bool.or_eq_false_iff, decide_eq_false_iff_not]; omega
  have g2 : (!((((dr == (1 : Int)) && (decide ((fl : Int) ≥ (0 : Int)))) && (decide ((fl : Int) < (IntKind.i64.wrap ((n : Int) - (1 : Int)))))) || (((dr == (2 : Int)) && (decide ((fl : Int) > (0 : Int)))) && (decide ((fl : Int) < (n : Int)))))) = false := by
    unfold Cl at hcl
    simp only [Bool.not_eq_false', Bool.and_eq_true, Bool.or_eq_true, decide_eq_true_eq, beq_iff_eq]
    rw [wrap_i64_of (x := (n : Int) - 1) (by omega) (by omega)]
    omega
  rw [g, cond_false, g2, cond_false, e1, e2]
  have bfr := hl.b fr (.inr (.inl rfl)); have bfl := hl.b fl (.inr (.inr rfl))
  have r1 : (0 : Int) ≤ fr ∧ (fr : Int) ≤ 40 := by omega
  have r2 : (0 : Int) ≤ fl ∧ (fl : Int) ≤ 40 := by omega
  rw [dist_val r1 r2]
  have w : ∀ x : Int, -200 ≤ x → x ≤ 200 → IntKind.i64.wrap x = x := fun x h1 h2 => wrap_i64_of (by omega) (by omega)
  rw [w ((fl : Int) - fr) (by omega) (by omega), w ((H : Int) - fr) (by omega) (by omega), w ((H : Int) - fr + H) (by omega) (by omega), w ((H : Int) - fr + H - fl) (by omega) (by omega), w ((H : Int) - fr + H - L) (by omega) (by omega),
    w ((H : Int) - fr + H - L + fl) (by omega) (by omega), w ((H : Int) - fr + H - L + fl - L) (by omega) (by omega), w ((fr : Int) - fl) (by omega) (by omega), w ((fr : Int) - L) (by omega) (by omega),
    w ((fr : Int) - L + fl) (by omega) (by omega), w ((fr : Int) - L + fl - L) (by omega) (by omega), w ((fr : Int) - L + H) (by omega) (by omega), w ((fr : Int) - L + H - L) (by omega) (by omega), w ((fr : Int) - L + H - L + H) (by omega) (by omega), w ((fr : Int) - L + H - L + H - fl) (by omega) (by omega)]
  unfold pv
  unfold Cl at hcl
  have hsw : sw = 0 ∨ sw = 1 ∨ sw = 2 := by omega
  have hdr : dr = 1 ∨ dr = 2 := by omega
  rcases hsw with rfl | rfl | rfl <;> rcases hdr with rfl | rfl
  all_goals
    (rcases Int.lt_trichotomy fl fr with h | h | h
     · rw [show decide ((fl : Int) ≥ fr) = false from by simp; omega, show decide ((fl : Int) ≤ fr) = true from by simp; omega]
       simp <;> (repeat' split) <;> omega
     · rw [show decide ((fl : Int) ≥ fr) = true from by simp; omega, show decide ((fl : Int) ≤ fr) = true from by simp; omega]
       simp <;> (repeat' split) <;> omega
     · rw [show decide ((fl : Int) ≥ fr) = true from by simp; omega, show decide ((fl : Int) ≤ fr) = false from by simp; omega]
       simp <;> (repeat' split) <;> omega)
end
/-- What is asked first. -/
def Pr (n fr sw fl dr : Int) : Prop := (2 ≤ n ∧ n ≤ 32) ∧ (0 ≤ fr ∧ fr < n) ∧ (0 ≤ sw ∧ sw ≤ 2) ∧ Cl n fl dr
theorem path_bad {n fr sw fl dr : Int} {s : Int × Int × Int} (h : ¬ Pr n fr sw fl dr) : F7 (n, fr, sw, s, fl, dr) = -1 := by
  unfold F7
  simp only
  have g : ((((((!(F16 n)) || (decide (fr < (0 : Int)))) || (decide (fr ≥ n))) || (decide (sw < (0 : Int)))) || (decide (sw > (2 : Int)))) || (!(F17 (n, fl, dr)))) = true := by
    unfold F16 F17
    unfold Pr Cl at h
    simp only [Bool.or_eq_true, Bool.not_eq_true', Bool.and_eq_false_iff, Bool.or_eq_false_iff, decide_eq_true_eq, decide_eq_false_iff_not, beq_eq_false_iff_ne, ne_eq]
    by_cases hn : 2 ≤ n ∧ n ≤ 32
    · rw [wrap_i64_of (x := n - 1) (by omega) (by omega)]; omega
    · omega
  rw [g, cond_true]
theorem rpath_bad {n fr sw fl dr : Int} {s : Int × Int × Int} (h : ¬ Pr n fr sw fl dr) : F8 (n, fr, sw, s, fl, dr) = -1 := by
  unfold F8
  simp only
  cases g : ((((((decide (n < (2 : Int))) || (decide (n > (32 : Int)))) || (decide (fr < (0 : Int)))) || (decide (fr ≥ n))) || (decide (sw < (0 : Int)))) || (decide (sw > (2 : Int)))) with
  | true => rw [cond_true]
  | false =>
    have g2 : (!((((dr == (1 : Int)) && (decide (fl ≥ (0 : Int)))) && (decide (fl < (IntKind.i64.wrap (n - (1 : Int)))))) || (((dr == (2 : Int)) && (decide (fl > (0 : Int)))) && (decide (fl < n))))) = true := by
      unfold Pr Cl at h
      simp only [Bool.or_eq_false_iff, decide_eq_false_iff_not] at g
      simp only [Bool.not_eq_true', Bool.and_eq_false_iff, Bool.or_eq_false_iff, decide_eq_false_iff_not, beq_eq_false_iff_ne, ne_eq]
      rw [wrap_i64_of (x := n - 1) (by omega) (by omega)]; omega
    rw [cond_false, g2, cond_true]
theorem path_good {n fr sw fl dr c u d : Int} (h : Pr n fr sw fl dr) (hc : W c) (hu : W u) (hd : W d) : ∃ N r f L H : Nat, n = (N : Int) ∧ fr = (r : Int) ∧ fl = (f : Int) ∧ r < N ∧ f < N ∧ N ≤ 32 ∧ HL N c u d r f L H ∧ L < N ∧ H < N ∧ F7 (n, fr, sw, (c, u, d), fl, dr) = pv fr sw fl dr L H := by
  obtain ⟨h1, h2, h3, h4⟩ := h
  obtain ⟨N, rfl⟩ := Int.eq_ofNat_of_zero_le (show 0 ≤ n by omega)
  obtain ⟨r, rfl⟩ := Int.eq_ofNat_of_zero_le (show 0 ≤ fr by omega)
  obtain ⟨f, rfl⟩ := Int.eq_ofNat_of_zero_le (show 0 ≤ fl by unfold Cl at h4; omega)
  obtain ⟨L, H, hl, hL, hH, e⟩ := path_val (n := N) (by omega) (by omega) hc hu hd (fr := r) (by omega) h3 h4
  exact ⟨N, r, f, L, H, rfl, rfl, rfl, by omega, by unfold Cl at h4; omega, by omega, hl, hL, hH, e⟩
theorem path_eq (n fr sw fl dr : Int) {c u d : Int} (hc : W c) (hu : W u) (hd : W d) : F7 (n, fr, sw, (c, u, d), fl, dr) = F8 (n, fr, sw, (c, u, d), fl, dr) := by
  by_cases h : Pr n fr sw fl dr
  · obtain ⟨N, r, f, L, H, rfl, rfl, rfl, hr, hf, hN, hl, _, _, e⟩ := path_good h hc hu hd
    obtain ⟨h1, h2, h3, h4⟩ := h
    obtain ⟨L', H', hl', e'⟩ := rpath_val (n := N) (by omega) (by omega) hc hu hd (fr := r) hr h3 h4
    obtain ⟨rfl, rfl⟩ := hl.uniq hl'
    rw [e, e']
  · rw [path_bad h, rpath_bad h]
/-! How many. -/
theorem cnt_range {x : Int} {n : Nat} (h : ∀ i, n ≤ i → bit x i = false) : ∀ m, n ≤ m → (List.range m).countP (bit x) = (List.range n).countP (bit x)
  | 0, hm => by rw [show n = 0 by omega]
  | m + 1, hm => by
    rcases Nat.eq_or_lt_of_le hm with e | e
    · rw [e]
    · rw [List.range_succ, List.countP_append, cnt_range h m (by omega), List.countP_cons, List.countP_nil, h m (by omega)]; simp
theorem count_val {n : Nat} (hn2 : 2 ≤ n) (hn : n ≤ 32) {c u d : Int} (hc : W c) (hu : W u) (hd : W d) :
    F9 ((n : Int), c, u, d) = (((List.range n).countP (bit (cA n c)) + (List.range n).countP (bit (cU n u)) + (List.range n).countP (bit (cD n d)) : Nat) : Int) := by
  unfold F9
  have g : (!(F16 (n : Int))) = false := by
    unfold F16; simp; omega
  simp only
  rw [g, cond_false, counted_val]
  simp only
  unfold F24
  simp only
  have h1 := cnt_le (cA n c); have h2 := cnt_le (cU n u); have h3 := cnt_le (cD n d)
  rw [pop_spec (W_and _ _), pop_spec (W_and _ _), pop_spec (W_and _ _), wrap_i64_of (x := (cnt (cU n u) : Int) + cnt (cD n d)) (by omega) (by omega), wrap_i64_of (x := (cnt (cA n c) : Int) + ((cnt (cU n u) : Int) + cnt (cD n d))) (by omega) (by omega)]
  have e1 : cnt (cA n c) = (List.range n).countP (bit (cA n c)) := cnt_range (fun i hi => by rw [bit_cA hn hc, show decide (i < n) = false from by simp; omega, Bool.and_false]) 32 hn
  have e2 : cnt (cU n u) = (List.range n).countP (bit (cU n u)) := cnt_range (fun i hi => by rw [bit_cU hn hu, show decide (i + 1 < n) = false from by simp; omega, Bool.and_false]) 32 hn
  have e3 : cnt (cD n d) = (List.range n).countP (bit (cD n d)) := cnt_range (fun i hi => by rw [bit_cD hn hd, show decide (0 < i ∧ i < n) = false from by simp; omega, Bool.and_false]) 32 hn
  rw [e1, e2, e3]; omega
theorem rcount_in {n : Nat} (hn : n ≤ 32) {c u d : Int} (hc : W c) (hu : W u) (hd : W d) (f : Nat) (hf : f < n) (acc : Nat) (ha : acc ≤ 1000) :
    (G10_8 ((n : Int), (f : Int), c, u, d) ((acc : Int), 0)).1 = ((acc + (bif bit (cA n c) f then 1 else 0) + (bif bit (cU n u) f then 1 else 0) + (bif bit (cD n d) f then 1 else 0) : Nat) : Int) := by
  have key : ∀ (a j : Nat) (b : Bool), a ≤ 1010 → j < 3 → F22 ((n : Int), (c, u, d), (f : Int), (j : Int)) = b → st10_8 ((n : Int), (f : Int), c, u, d) ((a : Int), (j : Int)) = .next ((n : Int), (f : Int), c, u, d) (((a + (bif b then 1 else 0) : Nat) : Int), ((j + 1 : Nat) : Int)) := by
    intro a j b ha hj hb
    unfold st10_8
    simp only
    rw [show decide ((j : Int) < 3) = true from by simp; omega, cond_true, hb, wrap_i64_of (x := (j : Int) + 1) (by omega) (by omega), wrap_i64_of (x := (a : Int) + 1) (by omega) (by omega)]
    cases b <;> simp
  have b1 : (bif bit (cA n c) f then 1 else 0 : Nat) ≤ 1 := by cases bit (cA n c) f <;> simp
  have b2 : (bif bit (cU n u) f then 1 else 0 : Nat) ≤ 1 := by cases bit (cU n u) f <;> simp
  have h0 := key acc 0 _ (by omega) (by omega) (is0 (c := c) (u := u) (d := d) hn hc f hf)
  have h1 := key (acc + (bif bit (cA n c) f then 1 else 0)) 1 _ (by omega) (by omega) (is1 (c := c) (u := u) (d := d) hn hu f hf)
  have h2 := key (acc + (bif bit (cA n c) f then 1 else 0) + (bif bit (cU n u) f then 1 else 0)) 2 _ (by omega) (by omega) (is2 (c := c) (u := u) (d := d) hn hd f hf)
  have h3 : ∀ z : Int, st10_8 ((n : Int), (f : Int), c, u, d) (z, ((3 : Nat) : Int)) = .brk ((n : Int), (f : Int), c, u, d) (z, ((3 : Nat) : Int)) := fun z => rfl
  have hG : G10_8 ((n : Int), (f : Int), c, u, d) ((acc : Int), 0) = endOf st10_8 ((n : Int), (f : Int), c, u, d) 4 ((acc : Int), ((0 : Nat) : Int)) := rfl
  rw [hG]
  simp only [endOf, h0, h1, h2, h3]
def sumTo (n : Nat) (c u d : Int) (i : Nat) : Nat := (List.range i).countP (bit (cA n c)) + (List.range i).countP (bit (cU n u)) + (List.range i).countP (bit (cD n d))
theorem rcount_val {n : Nat} (hn2 : 2 ≤ n) (hn : n ≤ 32) {c u d : Int} (hc : W c) (hu : W u) (hd : W d) : F10 ((n : Int), c, u, d) = ((sumTo n c u d n : Nat) : Int) := by
  have hs : ∀ i, i < n → ∃ k', st10_5 ((n : Int), c, u, d) ((fun i : Nat => (((sumTo n c u d i : Nat) : Int), (i : Int))) i) = .next k' ((fun i : Nat => (((sumTo n c u d i : Nat) : Int), (i : Int))) (i + 1)) := by
    intro i hi
    refine ⟨((n : Int), c, u, d), ?_⟩
    unfold st10_5
    simp only
    have hle : sumTo n c u d i ≤ 1000 := by
      unfold sumTo
      have h1 := List.countP_le_length (p := bit (cA n c)) (l := List.range i); have h2 := List.countP_le_length (p := bit (cU n u)) (l := List.range i); have h3 := List.countP_le_length (p := bit (cD n d)) (l := List.range i)
      rw [List.length_range] at h1 h2 h3
      omega
    rw [show decide ((i : Int) < (n : Int)) = true from by simp; omega, cond_true, rcount_in hn hc hu hd i hi _ hle, wrap_i64_of (x := (i : Int) + 1) (by omega) (by omega)]
    congr 2
    unfold sumTo
    simp only [List.range_succ, List.countP_append, List.countP_cons, List.countP_nil, Nat.zero_add]
    cases bit (cA n c) i <;> cases bit (cU n u) i <;> cases bit (cD n d) i <;> simp <;> omega
  have hb : st10_5 ((n : Int), c, u, d) ((fun i : Nat => (((sumTo n c u d i : Nat) : Int), (i : Int))) n) = .brk ((n : Int), c, u, d) ((fun i : Nat => (((sumTo n c u d i : Nat) : Int), (i : Int))) n) := by
    unfold st10_5
    simp only
    rw [show decide ((n : Int) < (n : Int)) = false from by simp, cond_false]
  have he := end_row_brk (fun i : Nat => (((sumTo n c u d i : Nat) : Int), (i : Int))) n hs hb (fuel := Nat.succ (mu10_5 ((n : Int), c, u, d) (0, 0))) (by
    show n < Nat.succ ((n : Int) - 0).toNat
    omega)
  have hG : G10_5 ((n : Int), c, u, d) (0, 0) = (((sumTo n c u d n : Nat) : Int), (n : Int)) := by
    first | exact he.1 | exact he
  unfold F10
  simp only
  rw [show (decide ((n : Int) < 2) || decide ((n : Int) > 32)) = false from by simp; omega, cond_false, hG]
theorem count_eq (n : Int) {c u d : Int} (hc : W c) (hu : W u) (hd : W d) : F9 (n, c, u, d) = F10 (n, c, u, d) := by
  by_cases h : 2 ≤ n ∧ n ≤ 32
  · obtain ⟨N, rfl⟩ := Int.eq_ofNat_of_zero_le (show 0 ≤ n by omega)
    rw [count_val (by omega) (by omega) hc hu hd, rcount_val (by omega) (by omega) hc hu hd]; rfl
  · unfold F9 F10
    simp only
    have g1 : (!(F16 n)) = true := by
      unfold F16
      simp only [Bool.not_eq_true', Bool.and_eq_false_iff, decide_eq_false_iff_not]; omega
    have g2 : (decide (n < 2) || decide (n > 32)) = true := by
      simp only [Bool.or_eq_true, decide_eq_true_eq]; omega
    rw [g1, g2]; rfl
end Go.Proofs.YtjdaplmlmmnokaaDoor.Sp
