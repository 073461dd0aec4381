/- Records, and their sums (own work). -/
import Derived.Test.YtabifaikklcghaaY4
import Derived.Test.YtabifaikklcghaaBuJ
namespace Go.Proofs.Ytabifaikklcghaa.Sp
open Go Sy
set_option linter.unusedVariables false
set_option linter.unusedSimpArgs false
set_option maxRecDepth 10000
/-! Sums of bytes. -/
def xr (a b : Int) : Int := ((a.toNat ^^^ b.toNat : Nat) : Int)
def By (x : Int) : Prop := 0 ≤ x ∧ x ≤ 255
theorem xr_rng {a b : Int} (ha : By a) (hb : By b) : By (xr a b) := by
  unfold By xr at *
  have : a.toNat ^^^ b.toNat < 2 ^ 8 := Nat.xor_lt_two_pow (by omega) (by omega)
  omega
theorem nat_xor_cancel {a a' b : Nat} (h : a ^^^ b = a' ^^^ b) : a = a' := by
  have := congrArg (· ^^^ b) h
  simpa [Nat.xor_assoc] using this
theorem xr_left {a a' b : Int} (ha : By a) (ha' : By a') (h : xr a b = xr a' b) : a = a' := by
  unfold xr at h
  unfold By at ha ha'
  have := nat_xor_cancel (Int.ofNat_inj.1 h)
  omega
theorem xr_right {a b b' : Int} (hb : By b) (hb' : By b') (h : xr a b = xr a b') : b = b' := by
  unfold xr at h
  unfold By at hb hb'
  have h1 := Int.ofNat_inj.1 h
  rw [Nat.xor_comm, Nat.xor_comm a.toNat] at h1
  have := nat_xor_cancel h1
  omega
theorem bv_xor (w : Nat) {a b : Int} (ha : 0 ≤ a ∧ a < 2 ^ w) (hb : 0 ≤ b ∧ b < 2 ^ w) : (BitVec.ofInt w a ^^^ BitVec.ofInt w b).toNat = a.toNat ^^^ b.toNat := by
  rw [BitVec.toNat_xor, BitVec.toNat_ofInt, BitVec.toNat_ofInt]
  have e1 : (a % ((2 ^ w : Nat) : Int)).toNat = a.toNat := by
    rw [Int.emod_eq_of_lt ha.1 (by simpa using ha.2)]
  have e2 : (b % ((2 ^ w : Nat) : Int)).toNat = b.toNat := by
    rw [Int.emod_eq_of_lt hb.1 (by simpa using hb.2)]
  rw [e1, e2]
theorem xor_u8 {a b : Int} (ha : By a) (hb : By b) : IntKind.u8.wrap ((BitVec.ofInt IntKind.u8.bits a ^^^ BitVec.ofInt IntKind.u8.bits b).toNat : Int) = xr a b := by
  have h := xr_rng ha hb
  unfold By at ha hb h
  have e := bv_xor 8 (a := a) (b := b) (by omega) (by omega)
  show IntKind.u8.wrap (((BitVec.ofInt 8 a ^^^ BitVec.ofInt 8 b).toNat : Nat) : Int) = _
  rw [e, IntKind.wrap_u8]
  show xr a b % 256 = _
  omega
theorem xor_i64 {a b : Int} (ha : By a) (hb : By b) : IntKind.i64.wrap ((BitVec.ofInt IntKind.i64.bits a ^^^ BitVec.ofInt IntKind.i64.bits (IntKind.i64.wrap b)).toNat : Int) = xr a b := by
  have h := xr_rng ha hb
  unfold By at ha hb h
  rw [wrap_i64_of (x := b) (by omega) (by omega)]
  have e := bv_xor 64 (a := a) (b := b) (by omega) (by omega)
  show IntKind.i64.wrap (((BitVec.ofInt 64 a ^^^ BitVec.ofInt 64 b).toNat : Nat) : Int) = _
  rw [e]
  exact wrap_i64_of (x := xr a b) (by omega) (by omega)
def T8 (r : Int) : Int := (G36_7 () (r, 0)).1
def rT8 (r : Int) : Int := (G18_7 () (r, 0)).1
def u8 (x : Nat) : Nat := match x % 2 with | 1 => (x ^^^ 7) / 2 + 128 | _ => x / 2
def U8 (x : Nat) : Nat := u8 (u8 (u8 (u8 (u8 (u8 (u8 (u8 x)))))))
theorem t8_all : (List.range 256).all (fun n => (decide (0 ≤ T8 (n : Int)) && decide (T8 (n : Int) ≤ 255)) && ((T8 (n : Int) == rT8 (n : Int)) && (U8 (T8 (n : Int)).toNat == n))) = true := by kernel_rfl
theorem t8_one {x : Int} (h : By x) : By (T8 x) ∧ T8 x = rT8 x ∧ U8 (T8 x).toNat = x.toNat := by
  unfold By at *
  have := List.all_eq_true.1 t8_all x.toNat (by simp; omega)
  rw [show ((x.toNat : Nat) : Int) = x by omega] at this
  simpa using this
theorem t8_inj {x y : Int} (hx : By x) (hy : By y) (h : T8 x = T8 y) : x = y := by
  have h1 := (t8_one hx).2.2
  have h2 := (t8_one hy).2.2
  rw [h, h2] at h1
  unfold By at *
  omega
def sf (r c : Int) : Int := T8 (xr r c)
def sum8 (l : List Int) : Int := l.foldl sf 0
def Bys (l : List Int) : Prop := ∀ c ∈ l, By c
theorem sf_rng {r c : Int} (hr : By r) (hc : By c) : By (sf r c) := (t8_one (xr_rng hr hc)).1
theorem fold_eq {f g : Int → Int → Int} (h : ∀ m c, By m → By c → f m c = g m c ∧ By (g m c)) : ∀ (l : List Int) (m : Int), Bys l → By m → l.foldl f m = l.foldl g m ∧ By (l.foldl g m)
  | [], m, _, hm => ⟨rfl, hm⟩
  | c :: l, m, hl, hm => by
    obtain ⟨h1, h2⟩ := h m c hm (hl c (by simp))
    rw [List.foldl_cons, List.foldl_cons, h1]
    exact fold_eq h l _ (fun x hx => hl x (by simp [hx])) h2
theorem by_zero : By 0 := ⟨by omega, by omega⟩
theorem sum8_rng {l : List Int} (h : Bys l) : By (sum8 l) := (fold_eq (f := sf) (g := sf) (fun m c hm hc => ⟨rfl, sf_rng hm hc⟩) l 0 h by_zero).2
theorem stb_by (s : ByteArray) : Bys (stb s) := stb_rng s
theorem psum_eq (s : ByteArray) (h : s.size ≤ maxLen) : F36 s = sum8 (stb s) := by
  unfold F36 G36_3
  have := (end_fold (step := st36_3) (k := (s, (s.size : Int))) (stb s) (fun m c => T8 (IntKind.u8.wrap ((BitVec.ofInt IntKind.u8.bits m ^^^ BitVec.ofInt IntKind.u8.bits c).toNat : Int))) (by rw [stb_len]; exact h) (fun m i hi => by
      rw [stb_len] at hi
      refine ⟨(s, (s.size : Int)), ?_⟩
      unfold st36_3
      simp only
      rw [show decide ((i : Int) < (s.size : Int)) = true from by simp; omega, cond_true, strAt_nat s i hi]
      rfl) (fun m => by
      refine ⟨(s, (s.size : Int)), ?_⟩
      unfold st36_3
      simp only
      rw [stb_len, show decide ((s.size : Int) < (s.size : Int)) = false from by simp, cond_false]) 0 (fuel := Nat.succ (mu36_3 (s, (s.size : Int)) (0, 0))) (by
      rw [stb_len]
      show s.size < Nat.succ ((s.size : Int) - 0).toNat
      omega)).1
  rw [this]
  exact (fold_eq (fun m c hm hc => ⟨by rw [xor_u8 hm hc]; rfl, sf_rng hm hc⟩) _ 0 (stb_by s) by_zero).1
theorem rsum_eq (s : ByteArray) (h : s.size ≤ maxLen) : F18 s = sum8 (stb s) := by
  unfold F18 G18_3
  have := (end_fold (step := st18_3) (k := s) (stb s) (fun m c => rT8 (IntKind.i64.wrap ((BitVec.ofInt IntKind.i64.bits m ^^^ BitVec.ofInt IntKind.i64.bits (IntKind.i64.wrap c)).toNat : Int))) (by rw [stb_len]; exact h) (fun m i hi => by
      rw [stb_len] at hi
      refine ⟨s, ?_⟩
      unfold st18_3
      simp only
      rw [show decide ((i : Int) < (s.size : Int)) = true from by simp; omega, cond_true, strAt_nat s i hi]
      rfl) (fun m => by
      refine ⟨s, ?_⟩
      unfold st18_3
      simp only
      rw [stb_len, show decide ((s.size : Int) < (s.size : Int)) = false from by simp, cond_false]) 0 (fuel := Nat.succ (mu18_3 s (0, 0))) (by
      rw [stb_len]
      show s.size < Nat.succ ((s.size : Int) - 0).toNat
      omega)).1
  rw [this]
  have h2 := fold_eq (f := fun m c => rT8 (IntKind.i64.wrap ((BitVec.ofInt IntKind.i64.bits m ^^^ BitVec.ofInt IntKind.i64.bits (IntKind.i64.wrap c)).toNat : Int))) (g := sf) (fun m c hm hc => ⟨by rw [xor_i64 hm hc]; exact (t8_one (xr_rng hm hc)).2.1.symm, sf_rng hm hc⟩) (stb s) 0 (stb_by s) by_zero
  simp only
  rw [h2.1]
  have := h2.2
  unfold By at this
  rw [IntKind.wrap_u8]
  show sum8 (stb s) % 256 = sum8 (stb s)
  exact Int.emod_eq_of_lt this.1 (by show sum8 (stb s) < 256; unfold sum8; omega)
theorem fold_inj : ∀ (l : List Int) (m m' : Int), Bys l → By m → By m' → m ≠ m' → l.foldl sf m ≠ l.foldl sf m'
  | [], _, _, _, _, _, h => h
  | c :: l, m, m', hl, hm, hm', h => by
    have hc := hl c (by simp)
    refine fold_inj l _ _ (fun x hx => hl x (by simp [hx])) (sf_rng hm hc) (sf_rng hm' hc) fun e => h ?_
    exact xr_left hm hm' (t8_inj (xr_rng hm hc) (xr_rng hm' hc) e)
theorem fold_set : ∀ (l : List Int) (j : Nat) (m v : Int) (hj : j < l.length), Bys l → By m → By v → v ≠ l[j] → (l.set j v).foldl sf m ≠ l.foldl sf m
  | c :: l, 0, m, v, _, hl, hm, hv, h => by
    have hc := hl c (by simp)
    show l.foldl sf (sf m v) ≠ l.foldl sf (sf m c)
    refine fold_inj l _ _ (fun x hx => hl x (by simp [hx])) (sf_rng hm hv) (sf_rng hm hc) fun e => h ?_
    exact xr_right hv hc (t8_inj (xr_rng hm hv) (xr_rng hm hc) e)
  | c :: l, j + 1, m, v, hj, hl, hm, hv, h => by
    show (l.set j v).foldl sf (sf m c) ≠ l.foldl sf (sf m c)
    exact fold_set l j _ v (by simpa using hj) (fun x hx => hl x (by simp [hx])) (sf_rng hm (hl c (by simp))) hv (by simpa using h)
/-! Which records are valid. -/
abbrev RecT := Int × Int × Int × Int × Int
def rOk (fl n : Int) (r : RecT) : Prop :=
  (((r.2.2.1 = 1 ∧ 0 ≤ r.2.1 ∧ r.2.1 ≤ fl - 2) ∨ (r.2.2.1 = 2 ∧ 1 ≤ r.2.1 ∧ r.2.1 ≤ fl - 1)) ∧
    (((r.1 = 1 ∨ r.1 = 2) ∧ r.2.2.2.1 = 0 ∧ r.2.2.2.2 = 0) ∨ (r.1 = 3 ∧ -2 ≤ r.2.2.2.1 ∧ r.2.2.2.1 ≤ n - 1 ∧ r.2.2.2.2 = 0) ∨ (r.1 = 7 ∧ 0 ≤ r.2.2.2.1 ∧ r.2.2.2.1 ≤ 1 ∧ 0 ≤ r.2.2.2.2 ∧ r.2.2.2.2 ≤ 255))) ∨
  (r.2.1 = 0 ∧ r.2.2.1 = 0 ∧ 0 ≤ r.2.2.2.1 ∧ r.2.2.2.1 ≤ n - 1 ∧ ((r.1 = 4 ∧ 0 ≤ r.2.2.2.2 ∧ r.2.2.2.2 ≤ 4) ∨ ((r.1 = 5 ∨ r.1 = 6) ∧ 0 ≤ r.2.2.2.2 ∧ r.2.2.2.2 ≤ 1)))
instance (fl n : Int) (r : RecT) : Decidable (rOk fl n r) := by unfold rOk; infer_instance
theorem pwithin (n lo hi : Int) : F39 (n, lo, hi) = (decide (lo ≤ n) && decide (n ≤ hi)) := rfl
theorem rwithin (n lo hi : Int) : F42 (n, lo, hi) = (decide (lo ≤ n) && decide (n ≤ hi)) := rfl
theorem kind_cases (kd : Int) : kd = 1 ∨ kd = 2 ∨ kd = 3 ∨ kd = 4 ∨ kd = 5 ∨ kd = 6 ∨ kd = 7 ∨ ((kd == 1) = false ∧ (kd == 2) = false ∧ (kd == 3) = false ∧ (kd == 4) = false ∧ (kd == 5) = false ∧ (kd == 6) = false ∧ (kd == 7) = false) := by
  simp only [beq_eq_false_iff_ne, ne_eq]; omega
theorem pvalid (b : BldT) (r : RecT) (hl : b.cars.length ≤ maxLen) : F16 (b, r) = decide (IsB b ∧ rOk b.1 (b.cars.length : Int) r) := by
  unfold F16
  simp only [valid_cond b hl]
  by_cases hB : IsB b
  · have hn : 1 ≤ b.2.2.2.2.2.2.2.length ∧ b.2.2.2.2.2.2.2.length ≤ 8 := hB.cn
    have hw : IntKind.i64.wrap (((b.2.2.2.2.2.2.2).length : Int) - 1) = ((b.2.2.2.2.2.2.2).length : Int) - 1 := wrap_i64_of (by omega) (by omega)
    show _ = decide (IsB b ∧ rOk b.1 (b.2.2.2.2.2.2.2.length : Int) r)
    simp only [hB, not_true, decide_false, cond_false, iscall_eq _ _ _ hl, pwithin, hw, decide_true, Bool.true_and, true_and]
    obtain ⟨kd, f, d, c, v⟩ := r
    simp only
    rcases kind_cases kd with rfl | rfl | rfl | rfl | rfl | rfl | rfl | ⟨h1, h2, h3, h4, h5, h6, h7⟩
    rotate_left 7
    · simp only [h1, h2, h3, h4, h5, h6, h7, cond_true, cond_false]
      symm
      rw [decide_eq_false_iff_not]
      simp only [beq_eq_false_iff_ne, ne_eq] at h1 h2 h3 h4 h5 h6 h7
      unfold rOk
      simp only
      omega
    all_goals simp only [Int.reduceBEq, cond_true, cond_false, callOk]
    all_goals rw [Bool.eq_iff_iff]; simp only [Bool.and_eq_true, Bool.or_eq_true, decide_eq_true_eq, beq_iff_eq, rOk, beq_eq_false_iff_ne, ne_eq, true_or, or_true, true_and, and_true]; omega
  · simp [hB]
theorem rvalid9 (b : BldT) (r : RecT) (hl : b.cars.length ≤ maxLen) : F17 (b, r) = decide (IsB b ∧ rOk b.1 (b.cars.length : Int) r) := by
  unfold F17
  simp only [rvalid_cond b hl]
  by_cases hB : IsB b
  · have hn : 1 ≤ b.2.2.2.2.2.2.2.length ∧ b.2.2.2.2.2.2.2.length ≤ 8 := hB.cn
    have hw : IntKind.i64.wrap (((b.2.2.2.2.2.2.2).length : Int) - 1) = ((b.2.2.2.2.2.2.2).length : Int) - 1 := wrap_i64_of (by omega) (by omega)
    show _ = decide (IsB b ∧ rOk b.1 (b.2.2.2.2.2.2.2.length : Int) r)
    simp only [hB, not_true, decide_false, cond_false, riscall_eq _ _ _ hl, rwithin, hw, decide_true, Bool.true_and, true_and]
    obtain ⟨kd, f, d, c, v⟩ := r
    simp only
    rcases kind_cases kd with rfl | rfl | rfl | rfl | rfl | rfl | rfl | ⟨h1, h2, h3, h4, h5, h6, h7⟩
    rotate_left 7
    · simp only [h1, h2, h3, h4, h5, h6, h7, cond_true, cond_false]
      symm
      rw [decide_eq_false_iff_not]
      simp only [beq_eq_false_iff_ne, ne_eq] at h1 h2 h3 h4 h5 h6 h7
      unfold rOk
      simp only
      omega
    all_goals simp only [Int.reduceBEq, cond_true, cond_false, callOk]
    all_goals rw [Bool.eq_iff_iff]; simp only [Bool.and_eq_true, Bool.or_eq_true, decide_eq_true_eq, beq_iff_eq, rOk, beq_eq_false_iff_ne, ne_eq, true_or, or_true, true_and, and_true]; omega
  · simp [hB]
/-! Bytes of records. -/
def encB (r : RecT) : List Int := [r.1, r.2.1, r.2.2.1, r.2.2.2.1 + 2, r.2.2.2.2]
def encL (r : RecT) : List Int := encB r ++ [sum8 (encB r)]
theorem rOk_by {fl n : Int} (hf : fl ≤ 32) (hn : n ≤ 8) {r : RecT} (h : rOk fl n r) : Bys (encB r) := by
  unfold rOk at h
  intro c hc
  unfold By
  simp only [encB, List.mem_cons, List.not_mem_nil, or_false] at hc
  rcases hc with rfl | rfl | rfl | rfl | rfl <;> omega
theorem encL_by {r : RecT} (h : Bys (encB r)) : Bys (encL r) := by
  intro c hc
  rcases List.mem_append.1 hc with hc | hc
  · exact h c hc
  · simp only [List.mem_cons, List.not_mem_nil, or_false] at hc
    subst hc; exact sum8_rng h
theorem wrap_by {x : Int} (h : By x) : IntKind.u8.wrap x = x := by unfold By at h; rw [IntKind.wrap_u8]; omega
theorem bts_by {l : List Int} (h : Bys l) : stb (bts l) = l := stb_bts l h
theorem five (r : RecT) : (bts [r.1, r.2.1, r.2.2.1, r.2.2.2.1 + 2, r.2.2.2.2]).size ≤ maxLen := by rw [bts_size]; simp [maxLen]
theorem isb_lim {b : BldT} (hB : IsB b) : b.1 ≤ 32 ∧ (b.cars.length : Int) ≤ 8 := ⟨hB.fl.2, by have := hB.cn; omega⟩
theorem len_lim {b : BldT} (hB : IsB b) : b.cars.length ≤ maxLen := by have := hB.cn; simp only [maxLen]; omega
theorem penc_val {b : BldT} (hB : IsB b) {r : RecT} (h : rOk b.1 (b.cars.length : Int) r) : F14 (b, r) = (bts (encL r), 0) := by
  have hb := rOk_by (isb_lim hB).1 (isb_lim hB).2 h
  have hs := sum8_rng hb
  unfold F14
  simp only [pvalid b r (len_lim hB), hB, h, and_self, decide_true, Bool.not_true, cond_false]
  have e4 : IntKind.i64.wrap (r.2.2.2.1 + 2) = r.2.2.2.1 + 2 := by
    have := hb (r.2.2.2.1 + 2) (by simp [encB])
    unfold By at this
    exact wrap_i64_of (by omega) (by omega)
  rw [e4, wrap_by (hb r.1 (by simp [encB])), wrap_by (hb r.2.1 (by simp [encB])), wrap_by (hb r.2.2.1 (by simp [encB])), wrap_by (hb (r.2.2.2.1 + 2) (by simp [encB])), wrap_by (hb r.2.2.2.2 (by simp [encB]))]
  rw [psum_eq _ (five r), show stb (bts [r.1, r.2.1, r.2.2.1, r.2.2.2.1 + 2, r.2.2.2.2]) = encB r from bts_by hb]
  congr 1
theorem penc_bad {b : BldT} (hl : b.cars.length ≤ maxLen) {r : RecT} (h : ¬ (IsB b ∧ rOk b.1 (b.cars.length : Int) r)) : F14 (b, r) = (ByteArray.mk #[], 1) := by
  unfold F14
  simp only [pvalid b r hl, h, decide_false, Bool.not_false, cond_true]
theorem five_w (r : RecT) : (bts [(IntKind.u8.wrap r.1), (IntKind.u8.wrap r.2.1), (IntKind.u8.wrap r.2.2.1), (IntKind.u8.wrap (IntKind.i64.wrap (r.2.2.2.1 + (2 : Int)))), (IntKind.u8.wrap r.2.2.2.2)]).size ≤ maxLen := by rw [bts_size]; simp [maxLen]
theorem enc_eq (b : BldT) (r : RecT) (hl : b.cars.length ≤ maxLen) : F14 (b, r) = F15 (b, r) := by
  unfold F14 F15
  simp only [pvalid b r hl, rvalid9 b r hl]
  cases decide (IsB b ∧ rOk b.1 (b.cars.length : Int) r) with
  | false => rfl
  | true =>
    simp only [Bool.not_true, cond_false]
    rw [psum_eq _ (five_w r), rsum_eq _ (five_w r)]
theorem ext5 (s : ByteArray) (h : s.size = 6) : (s.extract (Int.toNat 0) (Int.toNat 5)).size ≤ maxLen := by
  rw [extract_size, h]; simp [maxLen]
theorem dec_eq (b : BldT) (s : ByteArray) (hl : b.cars.length ≤ maxLen) : F19 (b, s) = F20 (b, s) := by
  unfold F19 F20 K19_1 K20_1
  simp only [valid_cond b hl, rvalid_cond b hl, pvalid b _ hl, rvalid9 b _ hl]
  cases decide (¬ IsB b) with
  | true => rfl
  | false =>
    simp only [cond_false]
    cases hz : ((s.size : Int) != 6) with
    | true => rfl
    | false =>
      have hz : s.size = 6 := by simp at hz; omega
      simp only [cond_false, psum_eq _ (ext5 s hz), rsum_eq _ (ext5 s hz)]
theorem pdec_val {b : BldT} (hB : IsB b) {r : RecT} (h : rOk b.1 (b.cars.length : Int) r) : F19 (b, bts (encL r)) = (r, 0) := by
  have hb := rOk_by (isb_lim hB).1 (isb_lim hB).2 h
  obtain ⟨z, hzz⟩ : ∃ z, z = sum8 (encB r) := ⟨_, rfl⟩
  have hL : encL r = [r.1, r.2.1, r.2.2.1, r.2.2.2.1 + 2, r.2.2.2.2, z] := by rw [hzz]; rfl
  have hs : stb (bts (encL r)) = [r.1, r.2.1, r.2.2.1, r.2.2.2.1 + 2, r.2.2.2.2, z] := by rw [bts_by (encL_by hb), hL]
  have hz : (bts (encL r)).size = 6 := by rw [bts_size, hL]; rfl
  clear hL
  unfold F19 K19_1
  generalize bts (encL r) = s at hs hz ⊢
  have hn : ¬ ¬ IsB b := fun h => h hB
  have w : ∀ {x : Int}, x ∈ encB r → IntKind.i64.wrap x = x := fun hx => by have := hb _ hx; unfold By at this; exact wrap_i64_of (by omega) (by omega)
  have hcar := hb (r.2.2.2.1 + 2) (by simp [encB])
  unfold By at hcar
  have e0 : strAt s 0 = r.1 := by rw [strAt_eq, hs]; rfl
  have e1 : strAt s 1 = r.2.1 := by rw [strAt_eq, hs]; rfl
  have e2 : strAt s 2 = r.2.2.1 := by rw [strAt_eq, hs]; rfl
  have e3 : strAt s 3 = r.2.2.2.1 + 2 := by rw [strAt_eq, hs]; rfl
  have e4 : strAt s 4 = r.2.2.2.2 := by rw [strAt_eq, hs]; rfl
  have e5 : strAt s 5 = z := by rw [strAt_eq, hs]; rfl
  have e6 : F36 (s.extract (Int.toNat 0) (Int.toNat 5)) = z := by
    rw [psum_eq _ (ext5 s hz), stb_extract, hs, hzz]
    exact congrArg sum8 (rfl : _ = encB r)
  simp only [valid_cond b (len_lim hB), e0, e1, e2, e3, e4, e5, e6, hz, decide_eq_false hn, cond_false]
  rw [w (x := r.1) (by simp [encB]), w (x := r.2.1) (by simp [encB]), w (x := r.2.2.1) (by simp [encB]), w (x := r.2.2.2.1 + 2) (by simp [encB]), w (x := r.2.2.2.2) (by simp [encB]),
    show r.2.2.2.1 + 2 - 2 = r.2.2.2.1 by omega, wrap_i64_of (x := r.2.2.2.1) (by omega) (by omega), pvalid b _ (len_lim hB), decide_eq_true (show IsB b ∧ rOk b.1 (b.cars.length : Int) (r.1, r.2.1, r.2.2.1, r.2.2.2.1, r.2.2.2.2) from ⟨hB, h⟩)]
  simp
theorem getD_right {l m : List Int} {n : Nat} {d : Int} (h : l.length ≤ n) : (l ++ m).getD n d = m.getD (n - l.length) d := by
  rw [List.getD_eq_getElem?_getD, List.getD_eq_getElem?_getD, List.getElem?_append_right h]
theorem getD_left {l m : List Int} {n : Nat} {d : Int} (h : n < l.length) : (l ++ m).getD n d = l.getD n d := by
  rw [List.getD_eq_getElem?_getD, List.getD_eq_getElem?_getD, List.getElem?_append_left h]
/-- A record with a changed byte. -/
theorem pdec_set {b : BldT} (hB : IsB b) {r : RecT} (h : rOk b.1 (b.cars.length : Int) r) {j : Nat} (hj : j < 6) {v : Int} (hv : By v) (hne : v ≠ (encL r).getD j 0) : (F19 (b, bts ((encL r).set j v))).2 = 5 := by
  have hb := rOk_by (isb_lim hB).1 (isb_lim hB).2 h
  have hB6 := encL_by hb
  obtain ⟨z, hzz⟩ : ∃ z, z = sum8 (encB r) := ⟨_, rfl⟩
  have hL : encL r = encB r ++ [z] := by rw [hzz]; rfl
  rw [hL] at hne hB6 ⊢
  have hl5 : (encB r).length = 5 := rfl
  generalize encB r = B at *
  have hl6 : (B ++ [z]).length = 6 := by rw [List.length_append, hl5]; rfl
  have hset : Bys ((B ++ [z]).set j v) := by
    intro c hc
    rcases List.mem_or_eq_of_mem_set hc with hc | rfl
    · exact hB6 c hc
    · exact hv
  have hs : stb (bts ((B ++ [z]).set j v)) = (B ++ [z]).set j v := bts_by hset
  have hz : (bts ((B ++ [z]).set j v)).size = 6 := by rw [bts_size, List.length_set, hl6]
  unfold F19
  generalize bts ((B ++ [z]).set j v) = s at hs hz ⊢
  have hn : ¬ ¬ IsB b := fun h => h hB
  have e5 : strAt s 5 = ((B ++ [z]).set j v).getD 5 0 := by rw [strAt_eq, hs]; rfl
  have e6 : F36 (s.extract (Int.toNat 0) (Int.toNat 5)) = sum8 (((B ++ [z]).set j v).take 5) := by
    rw [psum_eq _ (ext5 s hz), stb_extract, hs]; rfl
  have hdiff : sum8 (((B ++ [z]).set j v).take 5) ≠ ((B ++ [z]).set j v).getD 5 0 := by
    by_cases h5 : j = 5
    · subst h5
      have e7 : (B ++ [z]).set 5 v = B ++ [v] := by rw [List.set_append_right _ _ (by omega), hl5]; rfl
      rw [e7, List.take_append_of_le_length (by omega), List.take_of_length_le (by omega), getD_right (by omega), hl5]
      rw [getD_right (by omega), hl5] at hne
      show sum8 B ≠ v
      rw [← hzz]
      exact fun e => hne e.symm
    · have e7 : (B ++ [z]).set j v = B.set j v ++ [z] := List.set_append_left _ _ (by omega)
      rw [e7, List.take_append_of_le_length (by rw [List.length_set]; omega), List.take_of_length_le (by rw [List.length_set]; omega), getD_right (by rw [List.length_set]; omega), List.length_set, hl5]
      rw [getD_left (by omega)] at hne
      show sum8 (B.set j v) ≠ z
      rw [hzz]
      refine fold_set B j 0 v (by omega) hb by_zero hv fun e => hne ?_
      rw [e, List.getD_eq_getElem?_getD, List.getElem?_eq_getElem (by omega)]
      rfl
  simp only [valid_cond b (len_lim hB), e5, e6, hz, decide_eq_false hn, cond_false]
  rw [show (sum8 (((B ++ [z]).set j v).take 5) != ((B ++ [z]).set j v).getD 5 0) = true from by simpa using hdiff]
  rfl
/-! The law's records. -/
theorem enc_small (b : BldT) (r : RecT) : (F14 (b, r)).1.size ≤ 6 := by
  unfold F14
  cases (!F16 (b, r)) with
  | true => exact Nat.zero_le _
  | false => simp [cond_false]
theorem renc_small (b : BldT) (r : RecT) : (F15 (b, r)).1.size ≤ 6 := by
  unfold F15
  cases (!F17 (b, r)) with
  | true => exact Nat.zero_le _
  | false => simp [cond_false]
theorem nthT_by {l : List Int} (hl : Bys l) (i : Int) : By (nthT l i) := by
  unfold nthT
  rw [List.getD_eq_getElem?_getD]
  cases h : l[i.toNat]? with
  | none => exact by_zero
  | some v => exact hl v (List.mem_of_getElem? h)
theorem tmod_by {a n : Int} (ha : 0 ≤ a) (hn : 0 < n) : 0 ≤ a.tmod n ∧ a.tmod n < n := by
  rw [Int.tmod_eq_emod_of_nonneg ha]
  exact ⟨Int.emod_nonneg _ (by omega), Int.emod_lt_of_pos _ hn⟩
set_option maxHeartbeats 2000000 in
theorem recs_step {l : List Int} {most fl n : Int} (hl : Bys l) (hfl : 2 ≤ fl ∧ fl ≤ 32) (hn : 1 ≤ n ∧ n ≤ 8) (hm : most ≤ 100) (x : List RecT × Int) (hx : (x.2 = 2 * (x.1.length : Int) ∧ (x.1.length : Int) ≤ 100) ∧ ∀ r ∈ x.1, rOk fl n r) :
    match st21_4 (l, most, fl, n) x with | .next _ y => y.2 = x.2 + 2 ∧ ∃ r, y.1 = x.1 ++ [r] ∧ rOk fl n r ∧ (x.1.length : Int) < most | .brk _ y => y = x | .ret _ => False := by
  obtain ⟨⟨h1, h2⟩, h3⟩ := hx
  have e2 : IntKind.i64.wrap (x.2 + 2) = x.2 + 2 := wrap_i64_of (by omega) (by omega)
  have hv := nthT_by hl x.2
  have hw := nthT_by hl (IntKind.i64.wrap (x.2 + 1))
  unfold st21_4 K21_4_1 K21_4_2 K21_4_3 K21_4_4 K21_4_5 K21_4_6 K21_4_7 K21_4_8 K21_4_9 K21_4_10 K21_4_11
  simp only
  generalize nthT l x.2 = v at hv ⊢
  generalize nthT l (IntKind.i64.wrap (x.2 + 1)) = w at hw ⊢
  unfold By at hv hw
  cases hc : (decide (IntKind.i64.wrap (x.2 + 1) < (l.length : Int)) && decide ((x.1.length : Int) < most)) with
  | false => rfl
  | true =>
    rw [Bool.and_eq_true, decide_eq_true_eq, decide_eq_true_eq] at hc
    have hc := hc.2
    rw [cond_true]
    have ev : IntKind.i64.wrap v = v := wrap_i64_of (by omega) (by omega)
    have ew : IntKind.i64.wrap w = w := wrap_i64_of (by omega) (by omega)
    have q1 : IntKind.i64.wrap (fl - 1) = fl - 1 := wrap_i64_of (by omega) (by omega)
    have q2 : IntKind.i64.wrap (n + 2) = n + 2 := wrap_i64_of (by omega) (by omega)
    obtain ⟨kd, hk, hk1⟩ : ∃ kd, IntKind.i64.wrap (1 + Int.tmod v 7) = kd ∧ 1 ≤ kd ∧ kd ≤ 7 := by
      have := tmod_by (a := v) (n := 7) (by omega) (by omega)
      exact ⟨1 + Int.tmod v 7, wrap_i64_of (by omega) (by omega), by omega, by omega⟩
    obtain ⟨dr, hd, hd1⟩ : ∃ dr, IntKind.i64.wrap (1 + Int.tmod w 2) = dr ∧ 1 ≤ dr ∧ dr ≤ 2 := by
      have := tmod_by (a := w) (n := 2) (by omega) (by omega)
      exact ⟨1 + Int.tmod w 2, wrap_i64_of (by omega) (by omega), by omega, by omega⟩
    have v7 : 0 ≤ Int.tdiv v 7 ∧ Int.tdiv v 7 ≤ 255 := by rw [Int.tdiv_eq_ediv_of_nonneg (by omega)]; omega
    have w2 : 0 ≤ Int.tdiv w 2 ∧ Int.tdiv w 2 ≤ 255 := by rw [Int.tdiv_eq_ediv_of_nonneg (by omega)]; omega
    have e7 : IntKind.i64.wrap (Int.tdiv v 7) = Int.tdiv v 7 := wrap_i64_of (by omega) (by omega)
    have e8 : IntKind.i64.wrap (Int.tdiv w 2) = Int.tdiv w 2 := wrap_i64_of (by omega) (by omega)
    have v14 : 0 ≤ Int.tdiv v 14 ∧ Int.tdiv v 14 ≤ 255 := by rw [Int.tdiv_eq_ediv_of_nonneg (by omega)]; omega
    have e9 : IntKind.i64.wrap (Int.tdiv v 14) = Int.tdiv v 14 := wrap_i64_of (by omega) (by omega)
    have m1 := tmod_by (a := Int.tdiv v 7) (n := 2) v7.1 (by omega)
    have m2 := tmod_by (a := Int.tdiv v 7) (n := n) v7.1 (by omega)
    have m3 := tmod_by (a := Int.tdiv v 7) (n := n + 2) v7.1 (by omega)
    have m4 := tmod_by (a := Int.tdiv w 2) (n := fl - 1) w2.1 (by omega)
    have m5 := tmod_by (a := w) (n := 5) (by omega) (by omega)
    have m6 := tmod_by (a := w) (n := 2) (by omega) (by omega)
    have e10 : IntKind.i64.wrap (Int.tmod (Int.tdiv v 7) (n + 2) - 2) = Int.tmod (Int.tdiv v 7) (n + 2) - 2 := wrap_i64_of (by omega) (by omega)
    have e11 : IntKind.i64.wrap (Int.tmod (Int.tdiv w 2) (fl - 1) + 1) = Int.tmod (Int.tdiv w 2) (fl - 1) + 1 := wrap_i64_of (by omega) (by omega)
    simp only [ev, ew, q1, q2, e2, e7, e8, e9, e10, e11, hk, hd]
    generalize Int.tmod (Int.tdiv v 7) 2 = a1 at *
    generalize Int.tmod (Int.tdiv v 7) n = a2 at *
    generalize Int.tmod (Int.tdiv v 7) (n + 2) = a3 at *
    generalize Int.tmod (Int.tdiv w 2) (fl - 1) = a4 at *
    generalize Int.tmod w 5 = a5 at *
    generalize Int.tmod w 2 = a6 at *
    generalize Int.tdiv v 14 = a7 at *
    have hkk : kd = 1 ∨ kd = 2 ∨ kd = 3 ∨ kd = 4 ∨ kd = 5 ∨ kd = 6 ∨ kd = 7 := by omega
    have hdd : dr = 1 ∨ dr = 2 := by omega
    rcases hkk with rfl | rfl | rfl | rfl | rfl | rfl | rfl <;> rcases hdd with rfl | rfl <;> simp only [Int.reduceBEq, cond_true, cond_false] <;> refine ⟨trivial, _, rfl, ?_, hc⟩ <;> unfold rOk <;> simp only [true_and, and_true, true_or, or_true] <;> omega
theorem recs_val {b : BldT} (hB : IsB b) {l : List Int} (hl : Bys l) {most : Int} (hm : 0 ≤ most ∧ most ≤ 100) :
    ((F21 (b, l, most)).length : Int) ≤ most ∧ ∀ r ∈ F21 (b, l, most), rOk b.1 (b.cars.length : Int) r := by
  unfold F21 G21_4
  have hn : 1 ≤ b.2.2.2.2.2.2.2.length ∧ b.2.2.2.2.2.2.2.length ≤ 8 := hB.cn
  refine loop_spec (fun x : List RecT × Int => ((x.2 = 2 * (x.1.length : Int) ∧ (x.1.length : Int) ≤ 100) ∧ (x.1.length : Int) ≤ most) ∧ ∀ r ∈ x.1, rOk b.1 (b.2.2.2.2.2.2.2.length : Int) r) (mu21_4 _) (fun _ y => (y.1.length : Int) ≤ most ∧ ∀ r ∈ y.1, rOk b.1 (b.2.2.2.2.2.2.2.length : Int) r) (fun x hx => ?_) _ ([], 0) ⟨⟨⟨by simp, by simp⟩, by simpa using hm.1⟩, by simp⟩ (Nat.lt_succ_self _)
  have := recs_step hl hB.fl (n := (b.2.2.2.2.2.2.2.length : Int)) (by omega) hm.2 x ⟨hx.1.1, hx.2⟩
  cases hs : st21_4 (l, most, b.1, (b.2.2.2.2.2.2.2.length : Int)) x with
  | ret r => rw [hs] at this; exact this.elim
  | brk k y => rw [hs] at this; subst this; exact ⟨hx.1.2, hx.2⟩
  | next k y =>
    rw [hs] at this
    obtain ⟨h1, r, h2, h3, h4⟩ := this
    have hlen : (y.1.length : Int) = x.1.length + 1 := by rw [h2]; simp
    refine ⟨⟨⟨⟨by omega, by omega⟩, by omega⟩, fun q hq => ?_⟩, ?_⟩
    · rw [h2] at hq
      rcases List.mem_append.1 hq with hq | hq
      · exact hx.2 q hq
      · simp only [List.mem_cons, List.not_mem_nil, or_false] at hq
        subst hq; exact h3
    · simp only [mu21_4]
      omega
/-- What holds of a loop's end. -/
theorem end_inv {K X ρ : Type} {step : K → X → BOut K X ρ} {k : K} (I : X → Prop) (h : ∀ x, I x → match step k x with | .next _ y => I y | .brk _ y => I y | .ret _ => True) : ∀ (n : Nat) (x : X), I x → I (endOf step k n x)
  | 0, x, hx => hx
  | n + 1, x, hx => by
    have := h x hx
    simp only [endOf]
    cases hs : step k x with
    | next k' y => rw [hs] at this; exact end_inv I h n y this
    | brk k' y => rw [hs] at this; exact this
    | ret r => exact hx
inductive NoBrk {K X ρ : Type} : BOut K X ρ → Prop
  | next {k : K} {x : X} : NoBrk (.next k x)
  | ret {r : ρ} : NoBrk (.ret r)
theorem NoBrk.cnd {K X ρ : Type} {c : Bool} {a b : BOut K X ρ} (ha : NoBrk a) (hb : NoBrk b) : NoBrk (bif c then a else b) := by cases c; exact hb; exact ha
theorem NoBrk.opt {K X ρ : Type} {o : Option ρ} {a : BOut K X ρ} (ha : NoBrk a) : NoBrk (optR o BOut.ret a) := by cases o; exact ha; exact .ret
theorem no_brk {K X ρ : Type} {a : BOut K X ρ} {k : K} {y x : X} (h : NoBrk a) : a = .brk k y → y = x := by intro e; rw [e] at h; cases h
theorem idx_ok {v n : Int} (hv : By v) (h0 : 0 < n) (h1 : n ≤ 1000) : 0 ≤ IntKind.i64.wrap (Int.tdiv (IntKind.i64.wrap (IntKind.i64.wrap v * n)) 256) ∧ IntKind.i64.wrap (Int.tdiv (IntKind.i64.wrap (IntKind.i64.wrap v * n)) 256) < n := by
  unfold By at hv
  have h2 : v * n ≤ 255 * n := Int.mul_le_mul_of_nonneg_right hv.2 (by omega)
  have h3 : 0 ≤ v * n := Int.mul_nonneg hv.1 (by omega)
  rw [wrap_i64_of (x := v) (by omega) (by omega)]
  generalize v * n = p at h2 h3 ⊢
  rw [wrap_i64_of (x := p) (by omega) (by omega), Int.tdiv_eq_ediv_of_nonneg h3, wrap_i64_of (x := p / 256) (by omega) (by omega)]
  omega
theorem recs_pre {n : Int} (hn : 0 ≤ n ∧ n ≤ 255) {l : List Int} {most : Int} (hm : most ≤ 100) : pre21 (F13 n, l, most) := by
  have hB := build_isB hn
  have h1 : 1 ≤ (F13 n).2.2.2.2.2.2.2.length ∧ (F13 n).2.2.2.2.2.2.2.length ≤ 8 := hB.cn
  have h2 := hB.fl
  unfold pre21
  simp only
  omega
theorem recs_len {n : Int} (hn : 0 ≤ n ∧ n ≤ 255) {l : List Int} (hl : Bys l) {most : Int} (hm : 0 ≤ most ∧ most ≤ 100) : ((F21 (F13 n, l, most)).length : Int) ≤ most :=
  (recs_val (build_isB hn) hl hm).1
end Go.Proofs.Ytabifaikklcghaa.Sp
