/- Records: the laws (own work). -/
import Derived.Test.YtabifaikklcghaaY5
import Derived.Test.YtabifaikklcghaaTr
namespace Go.Proofs.Ytabifaikklcghaa.Sp
open Go Sy
set_option linter.unusedVariables false
set_option linter.unusedSimpArgs false
set_option maxRecDepth 10000
theorem sane_true : F12 () = true := by kernel_rfl
theorem rin_u8 {x : Int} (h : (Lit.int .u8 x).wf = true) : 0 ≤ x ∧ x ≤ 255 := by
  simp only [Lit.wf, Bool.and_eq_true, decide_eq_true_eq] at h
  exact ⟨h.1, h.2⟩
theorem rin_by {l : List Int} (h : ∀ x ∈ l, (Lit.int .u8 x).wf = true) : Bys l := fun x hx => rin_u8 (h x hx)
theorem rec_self (r : RecT) : (!((r.1 == r.1) && ((r.2.1 == r.2.1) && ((r.2.2.1 == r.2.2.1) && ((r.2.2.2.1 == r.2.2.2.1) && (r.2.2.2.2 == r.2.2.2.2)))))) = false := by simp
theorem rec_beq (r q : RecT) : ((r.1 == q.1) && ((r.2.1 == q.2.1) && ((r.2.2.1 == q.2.2.1) && ((r.2.2.2.1 == q.2.2.2.1) && (r.2.2.2.2 == q.2.2.2.2))))) = decide (r = q) := by
  rw [Bool.eq_iff_iff]
  simp only [Bool.and_eq_true, beq_iff_eq, decide_eq_true_eq, Prod.ext_iff]
/-! Codes. -/
theorem law_codes (x : ct3.p.den) (h : InR ct3.p x) : ct3.F x = true := by
  obtain ⟨n, r, raw⟩ := x
  have hn := rin_u8 h.1
  show F3 (n, r, raw) = true
  unfold F3
  simp only
  have hl := len_lim (build_isB hn)
  generalize F13 n = b at hl ⊢
  rw [sane_true]
  have h1 : R3_5 (r, b) 0 = none := ret_none (fun _ => True) (fun y _ => by
    unfold st3_5
    simp only [enc_eq b _ hl, pvalid b _ hl, rvalid9 b _ hl, strEq_self, bne_self_eq_false, Bool.not_true, Bool.or_self, cond_false]
    cases decide (y < 9) <;> cases decide (y > 0) <;> trivial) _ _ trivial
  have h2 : ∀ k, R3_16 (k, ((k.length : Nat) : Int), b) 0 = none := fun k => ret_none (fun _ => True) (fun y _ => by
    unfold st3_16
    simp only [dec_eq b _ hl, rec_self, bne_self_eq_false, Bool.or_self, cond_false]
    cases decide (y < (k.length : Int)) <;> trivial) _ _ trivial
  rw [h1, h2, optR_none, optR_none]
  cases decide ((raw.size : Int) > 100) <;> rfl
/-! Lists of records. -/
theorem same_dec (a b : List RecT) (hl : a.length ≤ maxLen) : F22 (a, b) = decide (a = b) := by
  unfold F22
  simp only
  by_cases hlen : a.length = b.length
  · rw [show ((a.length : Int) != (b.length : Int)) = false from by simp [hlen], cond_false]
    have hr : R22_4 (a, b) 0 = (List.range a.length).findSome? (fun (i : Nat) => if decide (nthT a (i : Int) = nthT b (i : Int)) then none else some false) := by
      unfold R22_4
      refine ret_row (step := st22_4) (k := (a, b)) (fun i : Nat => (i : Int)) _ a.length (fun i hi => ?_) (k' := (a, b)) (y := (a.length : Int)) ?_ ?_
      · simp only [st22_4]
        rw [show decide ((i : Int) < (a.length : Int)) = true from by simp; omega, cond_true, rec_beq]
        by_cases e : nthT a (i : Int) = nthT b (i : Int)
        · simp only [e, decide_true, Bool.not_true, cond_false, if_true]
          exact ⟨_, by rw [wrap_succ hi hl]⟩
        · simp only [e, decide_false, Bool.not_false, cond_true, if_false, Bool.false_eq_true]
      · simp only [st22_4]
        rw [show decide ((a.length : Int) < (a.length : Int)) = false from by simp, cond_false]
      · simp only [mu22_4]
        omega
    rw [hr, findSome_all]
    rw [Bool.eq_iff_iff, List.all_eq_true, decide_eq_true_eq]
    constructor
    · intro h
      apply List.ext_getElem hlen
      intro i h1 h2
      have := h i (by simpa using h1)
      rw [decide_eq_true_eq, nthT_nat a i h1, nthT_nat b i h2] at this
      exact this
    · rintro rfl i _
      simp
  · rw [show ((a.length : Int) != (b.length : Int)) = true from by simp; omega, cond_true]
    symm
    rw [decide_eq_false_iff_not]
    rintro rfl
    exact hlen rfl
theorem read_eq (b : BldT) (s : ByteArray) (hl : b.cars.length ≤ maxLen) : F30 (b, s) = F31 (b, s) := by
  unfold F30 F31
  exact (loop_sim (step := st30_3) (k := (s, b)) (step' := st31_3) (k' := (s, b)) (fun x x' => x = x') (fun x x' hx => by
    subst hx
    unfold st30_3 st31_3
    simp only [dec_eq b _ hl]
    cases decide (IntKind.i64.wrap (x.2 + 6) ≤ (s.size : Int)) with
    | false => rfl
    | true =>
      simp only [cond_true]
      cases ((F20 (b, (ByteArray.extract s (Int.toNat x.2) (Int.toNat (IntKind.i64.wrap (x.2 + 6)))))).2 != 0) <;> rfl) (Nat.succ ((s.size : Int) - 0).toNat) ([], 0) ([], 0) rfl).1
/-- Their bytes. -/
def cat (rs : List RecT) : List Int := (rs.map encL).flatten
theorem encL_len (r : RecT) : (encL r).length = 6 := rfl
theorem cat_len : ∀ rs : List RecT, (cat rs).length = 6 * rs.length
  | [] => rfl
  | r :: rs => by
    have := cat_len rs
    simp only [cat, List.map_cons, List.flatten_cons, List.length_append, encL_len, List.length_cons] at this ⊢
    omega
theorem cat_snoc (rs : List RecT) (r : RecT) : cat (rs ++ [r]) = cat rs ++ encL r := by simp [cat]
theorem cat_cons (rs : List RecT) (r : RecT) : cat (r :: rs) = encL r ++ cat rs := rfl
theorem cat_chunk : ∀ (rs : List RecT) (i : Nat) (h : i < rs.length) (t : List Int), ((cat rs ++ t).drop (6 * i)).take 6 = encL rs[i]
  | r :: rs, 0, _, t => by
    rw [cat_cons, Nat.mul_zero, List.drop_zero, List.append_assoc, List.take_append_of_le_length (by rw [encL_len]; omega), List.take_of_length_le (by rw [encL_len]; omega)]
    rfl
  | r :: rs, i + 1, h, t => by
    have := cat_chunk rs i (by simpa using h) t
    rw [cat_cons, List.append_assoc, show 6 * (i + 1) = (encL r).length + 6 * i by rw [encL_len]; omega, ← List.drop_drop, List.drop_left, this]
    rfl
theorem encL_inj {r q : RecT} (h : encL r = encL q) : r = q := by
  have : encB r = encB q := (List.append_inj h rfl).1
  simp only [encB, List.cons.injEq, and_true] at this
  obtain ⟨h1, h2, h3, h4, h5⟩ := this
  rw [Prod.ext_iff, Prod.ext_iff, Prod.ext_iff, Prod.ext_iff]
  exact ⟨h1, h2, h3, by omega, h5⟩
theorem cat_inj {rs qs : List RecT} (h : cat rs = cat qs) : rs = qs := by
  have hl := congrArg List.length h
  rw [cat_len, cat_len] at hl
  apply List.ext_getElem (by omega)
  intro i h1 h2
  have e1 := cat_chunk rs i h1 []
  have e2 := cat_chunk qs i h2 []
  rw [h] at e1
  exact encL_inj (e1.symm.trans e2)
theorem cat_by {fl n : Int} (hf : fl ≤ 32) (hn : n ≤ 8) {rs : List RecT} (h : ∀ r ∈ rs, rOk fl n r) : Bys (cat rs) := by
  intro c hc
  unfold cat at hc
  rw [List.mem_flatten] at hc
  obtain ⟨l, hl, hc⟩ := hc
  rw [List.mem_map] at hl
  obtain ⟨r, hr, rfl⟩ := hl
  exact encL_by (rOk_by hf hn (h r hr)) c hc
theorem nth_ok {b : BldT} {rs : List RecT} (hr : ∀ r ∈ rs, rOk b.1 (b.cars.length : Int) r) {i : Nat} (hi : i < rs.length) : rOk b.1 (b.cars.length : Int) (nthT rs (i : Int)) := by rw [nthT_nat rs i hi]; exact hr _ (List.getElem_mem _)
theorem cat_take {rs : List RecT} {i : Nat} (hi : i < rs.length) : cat (rs.take (i + 1)) = cat (rs.take i) ++ encL (nthT rs (i : Int)) := by
  rw [List.take_add_one, List.getElem?_eq_getElem hi, nthT_nat rs i hi]; exact cat_snoc _ _
section
variable {b : BldT} (hB : IsB b) {rs : List RecT} (hr : ∀ r ∈ rs, rOk b.1 (b.cars.length : Int) r)
include hB hr
theorem stb_snoc {i : Nat} (hi : i < rs.length) {s : ByteArray} (hs : stb s = cat (rs.take i)) : stb (strCat s (F14 (b, nthT rs (i : Int))).1) = cat (rs.take (i + 1)) := by
  have h := nth_ok hr hi
  rw [stb_cat, hs, penc_val hB h, bts_by (encL_by (rOk_by (isb_lim hB).1 (isb_lim hB).2 h)), cat_take hi]
/-- What is read. -/
theorem read_val {s : ByteArray} {t : List Int} (hs : stb s = cat rs ++ t) (hz : s.size ≤ 1000000000) : let y := F30 (b, s); (y.2 = 6 * (y.1.length : Int) ∧ y.2 ≤ (s.size : Int)) ∧ rs.length ≤ y.1.length ∧ y.1.take rs.length = rs := by
  unfold F30
  simp only
  refine loop_spec (step := st30_3) (k := (s, b)) (fun x : List RecT × Int => (x.2 = 6 * (x.1.length : Int) ∧ x.2 ≤ (s.size : Int)) ∧ x.1.take rs.length = rs.take x.1.length) (mu30_3 (s, b))
    (fun _ y => (y.2 = 6 * (y.1.length : Int) ∧ y.2 ≤ (s.size : Int)) ∧ rs.length ≤ y.1.length ∧ y.1.take rs.length = rs) (fun x hx => ?_) _ ([], 0) ⟨⟨by simp, by simp⟩, by simp⟩ (Nat.lt_succ_self _)
  obtain ⟨⟨h1, h2⟩, h3⟩ := hx
  have e : IntKind.i64.wrap (x.2 + 6) = x.2 + 6 := wrap_i64_of (by omega) (by omega)
  have hlen : (stb s).length = s.size := stb_len s
  rw [hs, List.length_append, cat_len] at hlen
  have hex : stb (s.extract (Int.toNat x.2) (Int.toNat (x.2 + 6))) = ((cat rs ++ t).drop (6 * x.1.length)).take 6 := by
    rw [stb_extract, hs, show Int.toNat (x.2 + 6) = 6 * x.1.length + 6 by omega, show Int.toNat x.2 = 6 * x.1.length by omega, List.drop_take]
    congr 1; omega
  have hat : ∀ hi : x.1.length < rs.length, x.2 + 6 ≤ (s.size : Int) ∧ F19 (b, s.extract (Int.toNat x.2) (Int.toNat (x.2 + 6))) = (rs[x.1.length], 0) := fun hi => by
    refine ⟨by omega, ?_⟩
    rw [cat_chunk rs _ hi] at hex
    have h := hr _ (List.getElem_mem hi)
    have : s.extract (Int.toNat x.2) (Int.toNat (x.2 + 6)) = bts (encL rs[x.1.length]) := stb_inj (by rw [hex, bts_by (encL_by (rOk_by (isb_lim hB).1 (isb_lim hB).2 h))])
    rw [this, pdec_val hB h]
  have hbrk : ¬ x.1.length < rs.length → (x.2 = 6 * (x.1.length : Int) ∧ x.2 ≤ (s.size : Int)) ∧ rs.length ≤ x.1.length ∧ x.1.take rs.length = rs := fun hn => ⟨⟨h1, h2⟩, by omega, by rw [h3, List.take_of_length_le (by omega)]⟩
  simp only [st30_3, e]
  cases hc : decide (x.2 + 6 ≤ (s.size : Int)) with
  | false =>
    rw [decide_eq_false_iff_not] at hc
    exact hbrk fun hi => hc (hat hi).1
  | true =>
    rw [decide_eq_true_eq] at hc
    rw [cond_true]
    cases hd : ((F19 (b, s.extract (Int.toNat x.2) (Int.toNat (x.2 + 6)))).2 != 0) with
    | true => exact hbrk fun hi => by rw [(hat hi).2] at hd; cases hd
    | false =>
      rw [cond_false]
      refine ⟨⟨⟨by simp only [List.length_append, List.length_cons, List.length_nil]; omega, by simp only; omega⟩, ?_⟩, by simp only [mu30_3]; omega⟩
      simp only [List.length_append, List.length_cons, List.length_nil]
      by_cases hi : x.1.length < rs.length
      · rw [(hat hi).2]
        rw [List.take_of_length_le (by omega)] at h3
        rw [List.take_of_length_le (by simp; omega), Nat.zero_add, List.take_add_one, List.getElem?_eq_getElem hi]
        exact congrArg (fun q => q ++ [rs[x.1.length]]) h3
      · rw [List.take_append_of_le_length (by omega), h3, List.take_of_length_le (by omega), List.take_of_length_le (by omega)]
end
/-! Back. -/
theorem pow_by {x : Int} (h : 0 ≤ x ∧ x < 8) : By (IntKind.u8.wrap ((1 : Int) * 2 ^ (min (IntKind.u64.wrap x).toNat IntKind.u8.bits))) ∧ IntKind.u8.wrap ((1 : Int) * 2 ^ (min (IntKind.u64.wrap x).toNat IntKind.u8.bits)) ≠ 0 := by
  have : x = 0 ∨ x = 1 ∨ x = 2 ∨ x = 3 ∨ x = 4 ∨ x = 5 ∨ x = 6 ∨ x = 7 := by omega
  unfold By
  rcases this with rfl | rfl | rfl | rfl | rfl | rfl | rfl | rfl <;> decide
theorem xr_ne {a b : Int} (ha : By a) (hb : By b) (h : b ≠ 0) : xr a b ≠ a := by
  intro e
  apply h
  have : xr a b = xr a 0 := by rw [e]; unfold xr By at *; simp; omega
  exact xr_right hb by_zero this
theorem flip_none {b : BldT} (hB : IsB b) {r : RecT} (h : rOk b.1 (b.cars.length : Int) r) : R8_14 (bts (encL r), b) 0 = none := by
  have hB6 := encL_by (rOk_by (isb_lim hB).1 (isb_lim hB).2 h)
  refine ret_none (step := st8_14) (k := (bts (encL r), b)) (fun x => 0 ≤ x) (fun x hx => ?_) _ 0 (by omega)
  simp only [st8_14]
  cases hc : decide (x < 48) with
  | false => rw [cond_false]; trivial
  | true =>
    rw [decide_eq_true_eq] at hc
    rw [cond_true]
    have e8 : IntKind.i64.wrap (Int.tdiv x 8) = x / 8 := by rw [Int.tdiv_eq_ediv_of_nonneg hx]; exact wrap_i64_of (by omega) (by omega)
    have m8 := tmod_by (a := x) (n := 8) hx (by omega)
    obtain ⟨hp, hp0⟩ := pow_by m8
    have hd : (F19 (b, bts (K8_14_1 (bts (encL r), b) x))).2 = 5 := by
      unfold K8_14_1
      simp only [e8, bts_by hB6]
      generalize IntKind.u8.wrap ((1 : Int) * 2 ^ (min (IntKind.u64.wrap (Int.tmod x 8)).toNat IntKind.u8.bits)) = p at hp hp0
      have hv := nthT_by hB6 (x / 8)
      rw [xor_u8 hv hp]
      have hj : (x / 8).toNat < (encL r).length := by rw [encL_len]; omega
      refine pdec_set hB h (j := (x / 8).toNat) (by omega) (xr_rng hv hp) ?_
      have : (encL r).getD (x / 8).toNat 0 = nthT (encL r) (x / 8) := rfl
      rw [this]
      exact xr_ne hv hp hp0
    rw [hd]
    show (0 : Int) ≤ IntKind.i64.wrap (x + 1)
    rw [wrap_i64_of (by omega) (by omega)]; omega
theorem law_back (x : ct8.p.den) (h : InR ct8.p x) : ct8.F x = true := by
  obtain ⟨n, l, tail⟩ := x
  have hn := rin_u8 h.1
  have hl := rin_by h.2.1.2
  show F8 (n, l, tail) = true
  unfold F8 K8_1
  simp only
  have hB := build_isB hn
  have hrs := recs_val hB hl (most := 40) (by omega)
  generalize F13 n = b at hB hrs ⊢
  obtain ⟨hlen, hr⟩ := hrs
  generalize F21 (b, l, 40) = rs at hlen hr ⊢
  rw [sane_true]
  cases hz : decide ((tail.size : Int) > 100) with
  | true => rfl
  | false =>
    rw [decide_eq_false_iff_not] at hz
    rw [cond_false]
    have hrow : ∀ (i : Nat) (s : ByteArray), i < rs.length → st8_7 (rs, b) (s, (i : Int)) = .next (rs, b) (strCat s (F14 (b, nthT rs (i : Int))).1, ((i + 1 : Nat) : Int)) := fun i s hi => by
      have hk := nth_ok hr hi
      have h6 : (bts (encL (nthT rs (i : Int)))).size = 6 := by rw [bts_size]; rfl
      simp only [st8_7]
      rw [show decide ((i : Int) < (rs.length : Int)) = true from by simp; omega, cond_true]
      simp only [penc_val hB hk, pdec_val hB hk, flip_none hB hk, rec_self, h6, bne_self_eq_false, Bool.or_self, cond_false, optR_none]
      rw [wrap_i64_of (by omega) (by omega)]
      rw [show ((((6 : Nat) : Int)) != 6) = false from rfl, Bool.or_self, cond_false]
      rfl
    let sq : Nat → ByteArray := fun i => bts (cat (rs.take i))
    have hcb : Bys (cat rs) := cat_by (isb_lim hB).1 (isb_lim hB).2 hr
    have hct : ∀ i, Bys (cat (rs.take i)) := fun i => cat_by (isb_lim hB).1 (isb_lim hB).2 fun r hr' => hr r (List.mem_of_mem_take hr')
    have hsq : ∀ i, i < rs.length → st8_7 (rs, b) ((fun i : Nat => (sq i, (i : Int))) i) = .next (rs, b) ((fun i : Nat => (sq i, (i : Int))) (i + 1)) := fun i hi => by
      simp only
      rw [hrow i _ hi]
      congr 2
      exact stb_inj (by rw [stb_snoc hB hr hi (bts_by (hct i)), bts_by (hct _)])
    have hb : st8_7 (rs, b) ((fun i : Nat => (sq i, (i : Int))) rs.length) = .brk (rs, b) (sq rs.length, (rs.length : Int)) := by
      simp only [st8_7]
      rw [show decide ((rs.length : Int) < (rs.length : Int)) = false from by simp, cond_false]
    have hend := end_row_brk _ rs.length (fun i hi => ⟨_, hsq i hi⟩) hb (fuel := Nat.succ (mu8_7 (rs, b) (ByteArray.mk #[], 0))) (by simp only [mu8_7]; omega)
    have h0 : sq 0 = ByteArray.mk #[] := rfl
    simp only [h0] at hend
    have hG : G8_7 (rs, b) (ByteArray.mk #[], 0) = (sq rs.length, (rs.length : Int)) := hend.1
    have hR : R8_7 (rs, b) (ByteArray.mk #[], 0) = none := hend.2
    rw [hG, hR, optR_none]
    have hst : stb (strCat (sq rs.length) tail) = cat rs ++ stb tail := by rw [stb_cat, bts_by (hct _), List.take_of_length_le (Nat.le_refl _)]
    have hsz : (strCat (sq rs.length) tail).size ≤ 1000000000 := by rw [← stb_len, hst, List.length_append, cat_len, stb_len]; omega
    have hsz2 : (strCat (sq rs.length) tail).size ≤ 400 := by rw [← stb_len, hst, List.length_append, cat_len, stb_len]; omega
    obtain ⟨⟨g1, g4⟩, g2, g3⟩ := read_val hB hr hst hsz
    generalize F30 (b, strCat (sq rs.length) tail) = y at g1 g2 g3 g4 ⊢
    have hsl : sliceL y.1 0 (rs.length : Int) = rs := by
      simp only [sliceL, Int.toNat_natCast, Int.toNat_zero, List.drop_zero]; exact g3
    rw [hsl, same_dec _ _ (by simp only [maxLen]; omega), decide_eq_true rfl, decide_eq_true (show (y.1.length : Int) ≥ (rs.length : Int) by omega)]
    have : (y.2 == IntKind.i64.wrap (6 * (y.1.length : Int))) = true := by
      rw [wrap_i64_of (by omega) (by omega), beq_iff_eq]; exact g1
    rw [this]
    rfl
/-! Reads. -/
theorem zero_notB : ¬ IsB ((0 : Int), (0 : Int), (0 : Int), (0 : Int), (0 : Nat), (0 : Nat), (0 : Nat), ([] : List CarT)) := fun h => by
  have := h.fl
  simp at this
theorem read_zero (s : ByteArray) : (F30 (((0 : Int), (0 : Int), (0 : Int), (0 : Int), (0 : Nat), (0 : Nat), (0 : Nat), ([] : List CarT)), s)).2 = 0 := by
  unfold F30 G30_3
  simp only
  have : ∀ x, st30_3 (s, ((0 : Int), (0 : Int), (0 : Int), (0 : Int), (0 : Nat), (0 : Nat), (0 : Nat), ([] : List CarT))) x = .brk (s, ((0 : Int), (0 : Int), (0 : Int), (0 : Int), (0 : Nat), (0 : Nat), (0 : Nat), ([] : List CarT))) x := fun x => by
    have hd : ∀ q, (F19 (((0 : Int), (0 : Int), (0 : Int), (0 : Int), (0 : Nat), (0 : Nat), (0 : Nat), ([] : List CarT)), q)).2 = 1 := fun q => by
      unfold F19
      simp only [valid_cond _ (show (BldT.cars ((0 : Int), (0 : Int), (0 : Int), (0 : Int), (0 : Nat), (0 : Nat), (0 : Nat), ([] : List CarT))).length ≤ maxLen from Nat.zero_le _), decide_eq_true zero_notB, cond_true]
    simp only [st30_3, hd]
    cases decide (IntKind.i64.wrap (x.2 + 6) ≤ (s.size : Int)) <;> rfl
  simp only [endOf, this]
theorem law_reads (x : ct9.p.den) (h : InR ct9.p x) : ct9.F x = true := by
  obtain ⟨n, l, m⟩ := x
  have hn := rin_u8 h.1
  show F9 (n, l, m) = true
  unfold F9
  simp only
  have hl := len_lim (build_isB hn)
  generalize F13 n = b at hl ⊢
  rw [sane_true, read_zero]
  have h2 : ∀ k, R9_14 (k, ((k.length : Nat) : Int), b) 0 = none := fun k => ret_none (fun _ => True) (fun y _ => by
    unfold st9_14
    have hself : ∀ a : List RecT, F22 (a, a) = true := fun a => by
      unfold F22
      simp only
      have h : R22_4 (a, a) 0 = none := ret_none (fun _ => True) (fun x _ => by
        unfold st22_4
        simp only [rec_self, cond_false]
        cases decide (x < (a.length : Int)) <;> trivial) _ _ trivial
      rw [h, optR_none, bne_self_eq_false, cond_false]
    simp only [read_eq b _ hl, hself, bne_self_eq_false, Bool.not_true, Bool.or_self, cond_false]
    cases decide (y < (k.length : Int)) <;> trivial) _ _ trivial
  rw [h2, optR_none]
  rfl
/-! Apart. -/
theorem law_apart (x : ct4.p.den) (h : InR ct4.p x) : ct4.F x = true := by
  obtain ⟨n, l, m⟩ := x
  have hn := rin_u8 h.1
  have hl := rin_by h.2.1.2
  have hm := rin_by h.2.2.2
  show F4 (n, l, m) = true
  unfold F4
  simp only
  have hB := build_isB hn
  have hrs := recs_val hB hl (most := 20) (by omega)
  have hqs := recs_val hB hm (most := 20) (by omega)
  generalize F13 n = b at hB hrs hqs ⊢
  obtain ⟨hlen, hr⟩ := hrs
  obtain ⟨hlen2, hq⟩ := hqs
  generalize F21 (b, l, 20) = rs at hlen hr ⊢
  generalize F21 (b, m, 20) = qs at hlen2 hq ⊢
  rw [sane_true]
  have hby : ∀ {r : RecT}, rOk b.1 ((BldT.cars b).length : Int) r → Bys (encL r) := fun h => encL_by (rOk_by (isb_lim hB).1 (isb_lim hB).2 h)
  have hinner : ∀ (i : Nat), i < rs.length → R4_11 (rs, qs, (i : Int), (bts (encL (nthT rs (i : Int)))), b) 0 = none := fun i hi => by
    refine ret_none (step := st4_11) (k := (rs, qs, (i : Int), (bts (encL (nthT rs (i : Int)))), b)) (fun x => 0 ≤ x) (fun x hx => ?_) _ 0 (by omega)
    simp only [st4_11]
    cases hc : decide (x < (qs.length : Int)) with
    | false => rw [cond_false]; trivial
    | true =>
      rw [decide_eq_true_eq] at hc
      rw [cond_true]
      obtain ⟨j, rfl⟩ : ∃ j : Nat, x = (j : Int) := ⟨x.toNat, by omega⟩
      have hj : j < qs.length := by omega
      have hk := nth_ok hq hj
      have hki := nth_ok hr hi
      rw [penc_val hB hk, rec_beq, strEq_dec, bts_by (hby hk), bts_by (hby hki)]
      have : decide (encL (nthT rs (i : Int)) = encL (nthT qs (j : Int))) = decide (nthT rs (i : Int) = nthT qs (j : Int)) := by
        rw [decide_eq_decide]; exact ⟨encL_inj, fun e => by rw [e]⟩
      rw [this, bne_self_eq_false, bne_self_eq_false, Bool.or_self, cond_false]
      show (0 : Int) ≤ IntKind.i64.wrap ((j : Int) + 1)
      rw [wrap_i64_of (by omega) (by omega)]; omega
  have hcr : ∀ i, Bys (cat (rs.take i)) := fun i => cat_by (isb_lim hB).1 (isb_lim hB).2 fun r hr' => hr r (List.mem_of_mem_take hr')
  have hcq : ∀ i, Bys (cat (qs.take i)) := fun i => cat_by (isb_lim hB).1 (isb_lim hB).2 fun r hr' => hq r (List.mem_of_mem_take hr')
  have hsr : ∀ i, i < rs.length → st4_5 (rs, qs, b) ((fun i : Nat => (bts (cat (rs.take i)), (i : Int))) i) = .next (rs, qs, b) ((fun i : Nat => (bts (cat (rs.take i)), (i : Int))) (i + 1)) := fun i hi => by
    have hk := nth_ok hr hi
    have hs := stb_snoc hB hr hi (bts_by (hcr i))
    simp only [st4_5]
    rw [show decide ((i : Int) < (rs.length : Int)) = true from by simp; omega, cond_true]
    rw [penc_val hB hk] at hs ⊢
    simp only [bne_self_eq_false, cond_false, hinner i hi, optR_none]
    rw [wrap_i64_of (by omega) (by omega)]
    congr 2
    exact stb_inj (by rw [hs, bts_by (hcr _)])
  have hbr : st4_5 (rs, qs, b) ((fun i : Nat => (bts (cat (rs.take i)), (i : Int))) rs.length) = .brk (rs, qs, b) (bts (cat (rs.take rs.length)), (rs.length : Int)) := by
    simp only [st4_5]
    rw [show decide ((rs.length : Int) < (rs.length : Int)) = false from by simp, cond_false]
  have hendr := end_row_brk _ rs.length (fun i hi => ⟨_, hsr i hi⟩) hbr (fuel := Nat.succ (mu4_5 (rs, qs, b) (ByteArray.mk #[], 0))) (by simp only [mu4_5]; omega)
  have hsq : ∀ i, i < qs.length → st4_18 (qs, b) ((fun i : Nat => (bts (cat (qs.take i)), (i : Int))) i) = .next (qs, b) ((fun i : Nat => (bts (cat (qs.take i)), (i : Int))) (i + 1)) := fun i hi => by
    have hs := stb_snoc hB hq hi (bts_by (hcq i))
    simp only [st4_18]
    rw [show decide ((i : Int) < (qs.length : Int)) = true from by simp; omega, cond_true, wrap_i64_of (by omega) (by omega)]
    congr 2
    exact stb_inj (by rw [hs, bts_by (hcq _)])
  have hbq : st4_18 (qs, b) ((fun i : Nat => (bts (cat (qs.take i)), (i : Int))) qs.length) = .brk (qs, b) (bts (cat (qs.take qs.length)), (qs.length : Int)) := by
    simp only [st4_18]
    rw [show decide ((qs.length : Int) < (qs.length : Int)) = false from by simp, cond_false]
  have hendq := end_row_brk _ qs.length (fun i hi => ⟨_, hsq i hi⟩) hbq (fuel := Nat.succ (mu4_18 (qs, b) (ByteArray.mk #[], 0))) (by simp only [mu4_18]; omega)
  have h0 : bts (cat (List.take 0 rs)) = ByteArray.mk #[] := rfl
  have h0' : bts (cat (List.take 0 qs)) = ByteArray.mk #[] := rfl
  simp only [h0] at hendr
  simp only [h0'] at hendq
  have hR : R4_5 (rs, qs, b) (ByteArray.mk #[], 0) = none := hendr.2
  have hG : G4_5 (rs, qs, b) (ByteArray.mk #[], 0) = (bts (cat (rs.take rs.length)), (rs.length : Int)) := hendr.1
  have hG2 : G4_18 (qs, b) (ByteArray.mk #[], 0) = (bts (cat (qs.take qs.length)), (qs.length : Int)) := hendq.1
  rw [hR, hG, hG2, optR_none, same_dec _ _ (by simp only [maxLen]; omega), strEq_dec, bts_by (hcr _), bts_by (hcq _), List.take_of_length_le (Nat.le_refl _), List.take_of_length_le (Nat.le_refl _)]
  have : decide (cat rs = cat qs) = decide (rs = qs) := by rw [decide_eq_decide]; exact ⟨cat_inj, fun e => by rw [e]⟩
  rw [this]
  simp
end Go.Proofs.Ytabifaikklcghaa.Sp
