/- Own texts joined by pk.py. -/
import Derived.Test.YtbnihoioblmgkaaJef18c2b4
import Derived.Test.YtbnihoioblmgkaaJa3b051c7
import Derived.Test.YtbnihoioblmgkaaRows
section
/- What a frame is, for the program and the reference (own work). -/
namespace Go.Proofs.Ytbnihoioblmgkaa.Sp
open Go Sy
set_option linter.unusedVariables false
set_option linter.unusedSimpArgs false
theorem scat_end {K α ρ : Type} [Inhabited α] {st : K → (ByteArray × Int) → BOut K (ByteArray × Int) ρ} {k : K} (f : α → List Int) (xs : List α) (hl : xs.length ≤ 1000)
    (hn : ∀ (i : Nat) l, i < xs.length → st k (bts l, (i : Int)) = .next k (bts (l ++ f (nthT xs i)), ((i + 1 : Nat) : Int))) (hb : ∀ l, st k (bts l, (xs.length : Int)) = .brk k (bts l, (xs.length : Int))) (row : List Int) {fuel : Nat} (hf : xs.length < fuel) :
    (endOf st k fuel (bts row, (0 : Int))).1 = bts (row ++ xs.flatMap f) := by
  have := (end_row_brk (step := st) (k := k) (fun i => (bts (row ++ (xs.take i).flatMap f), (i : Int))) xs.length (fun i hi => ⟨k, by
    try simp only
    rw [hn i _ hi, List.append_assoc, List.take_add_one, List.getElem?_eq_getElem hi, List.flatMap_append, nthT_nat _ i hi]
    simp⟩) (k' := k) (y := (bts (row ++ xs.flatMap f), (xs.length : Int))) (by
    try simp only
    rw [List.take_of_length_le (Nat.le_refl _)]
    exact hb _) hf).1
  have h2 := congrArg Prod.fst this
  simpa using h2
theorem rIn_loop (x : InT) (hl : x.2.2.length ≤ 1000) (row : List Int) : (G12_5 x (bts row, (0 : Int))).1 = bts (row ++ x.2.2.flatMap carE) := by
  unfold G12_5
  refine scat_end (st := st12_5) carE x.2.2 hl (fun i l hi => ?_) (fun l => ?_) row (by unfold mu12_5; simp only; omega)
  · unfold st12_5
    have h1 : decide ((i : Int) < (x.2.2.length : Int)) = true := by simp; omega
    simp only [h1, cond_true, num1, num4, num8, rbits6, bts_cat]
    rw [wrap_i64_of (x := (i : Int) + 1) (by omega) (by omega)]
    unfold carE
    simp only [List.append_assoc]
    rfl
  · unfold st12_5
    simp
theorem rOut_loop (x : OutT) (hl : x.2.2.2.2.2.length ≤ 1000) (row : List Int) : (G17_5 x (bts row, (0 : Int))).1 = bts (row ++ x.2.2.2.2.2.flatMap carO) := by
  unfold G17_5
  refine scat_end (st := st17_5) carO x.2.2.2.2.2 hl (fun i l hi => ?_) (fun l => ?_) row (by unfold mu17_5; simp only; omega)
  · unfold st17_5
    have h1 : decide ((i : Int) < (x.2.2.2.2.2.length : Int)) = true := by simp; omega
    simp only [h1, cond_true, num1, num4, num8, rbits3, rcalls_eq, bts_cat]
    rw [wrap_i64_of (x := (i : Int) + 1) (by omega) (by omega)]
    unfold carO
    simp only [List.append_assoc]
    rfl
  · unfold st17_5
    simp
abbrev nCars (b : BldT) : Int := (b.2.2.2.2.2.2.2.length : Int)
theorem n_byte {b : BldT} (hB : IsB b) : le (IntKind.u64.wrap (nCars b)) 1 = [nCars b] ∧ IntKind.u8.wrap (nCars b) = nCars b := by
  have h1 := hB.cn
  have h1 : b.2.2.2.2.2.2.2.length ≤ 8 := h1.2
  unfold nCars
  simp only [le, IntKind.wrap_u8, IntKind.wrap_u64]
  refine ⟨?_, by omega⟩
  congr 1
  omega
def frameIn (b : BldT) (x : InT) : ByteArray × Int := bif decide (IsB b) && inOk b x then (sealT (bts (inRow (nCars b) x)), 0) else (ByteArray.empty, 1)
def frameOut (b : BldT) (x : OutT) : ByteArray × Int := bif decide (IsB b) && outOk b x then (sealT (bts (outRow (nCars b) x)), 0) else (ByteArray.empty, 1)
theorem pIn_eq (b : BldT) (hl0 : b.cars.length ≤ maxLen) (x : InT) (hl : x.2.2.length ≤ 30) : F11 (b, x) = frameIn b x := by
  rw [In_eq b x hl, valid_cond b hl0]
  unfold frameIn
  by_cases hB : IsB b
  · rw [isin_eq hB hl0 x (by unfold maxLen; omega), (n_byte hB).2, p_seal _ (by rw [bts_size, inRow_len]; omega)]
    simp only [hB, not_true, decide_false, decide_true, Bool.false_or, Bool.true_and]
    cases inOk b x <;> rfl
  · simp [hB]
theorem pOut_eq (b : BldT) (hl0 : b.cars.length ≤ maxLen) (x : OutT) (hl : x.2.2.2.2.2.length ≤ 30) : F23 (b, x) = frameOut b x := by
  rw [Out_eq b x hl, valid_cond b hl0]
  unfold frameOut
  by_cases hB : IsB b
  · rw [isout_eq b hl0 x (by unfold maxLen; omega), (n_byte hB).2, p_seal _ (by rw [bts_size, outRow_len]; omega)]
    simp only [hB, not_true, decide_false, decide_true, Bool.false_or, Bool.true_and]
    cases outOk b x <;> rfl
  · simp [hB]
theorem le_165 : le 165 1 = [165] := rfl
theorem le_90 : le 90 1 = [90] := rfl
theorem rIn_eq (b : BldT) (hl0 : b.cars.length ≤ maxLen) (x : InT) (hl : x.2.2.length ≤ 30) (hu : ∀ c ∈ x.2.2, carU c) : F12 (b, x) = frameIn b x := by
  unfold F12 frameIn
  by_cases hB : IsB b
  · rw [risin_eq hB hl0 x (by unfold maxLen; omega) hu]
    have e : (K12_1 (b, x)).1 = bts (inRow (nCars b) x) := by
      unfold K12_1
      simp only [num1, rcalls_eq, bts_cat]
      rw [rIn_loop x (by omega), (n_byte hB).1, le_165]
      unfold inRow
      simp only [List.append_assoc, List.cons_append, List.nil_append]
    rw [e, r_seal _ (by rw [bts_size, inRow_len]; omega)]
    simp only [hB, decide_true, Bool.true_and]
    cases inOk b x <;> rfl
  · rw [risin_no hB hl0]
    simp [hB]
    rfl
theorem rOut_eq (b : BldT) (hl0 : b.cars.length ≤ maxLen) (x : OutT) (hl : x.2.2.2.2.2.length ≤ 30) : F17 (b, x) = frameOut b x := by
  unfold F17 frameOut
  by_cases hB : IsB b
  · rw [risout_eq hB hl0 x (by unfold maxLen; omega)]
    have e : (K17_1 (b, x)).1 = bts (outRow (nCars b) x) := by
      unfold K17_1
      simp only [num1, num2, rbits2, rcalls_eq, bts_cat]
      rw [rOut_loop x (by omega), (n_byte hB).1, le_90]
      unfold outRow
      simp only [List.append_assoc, List.cons_append, List.nil_append]
    rw [e, r_seal _ (by rw [bts_size, outRow_len]; omega)]
    simp only [hB, decide_true, Bool.true_and]
    cases outOk b x <;> rfl
  · rw [risout_no hB hl0]
    simp [hB]
    rfl
def opn (b : BldT) (s : ByteArray) (z hd : Int) : Int :=
  if ¬ IsB b then 1 else if (s.size : Int) ≠ z then 4 else if strAt s 0 ≠ hd ∨ strAt s 1 ≠ nCars b then 30 else if sum s ≠ 0#16 then 5 else 0
theorem ropn_eq (b : BldT) (hl0 : b.cars.length ≤ maxLen) (s : ByteArray) (z hd : Int) (hz : IsB b → 14 ≤ z ∧ z ≤ 99000) : F43 (b, s, z, hd) = opn b s z hd := by
  unfold F43 opn
  have r0 := strAt_rng s 0
  have r1 := strAt_rng s 1
  rw [rvalid_cond b hl0, wrap_i64_of (x := strAt s 0) (by omega) (by omega), wrap_i64_of (x := strAt s 1) (by omega) (by omega)]
  by_cases hB : IsB b
  · rw [if_neg (by simpa using hB)]
    have hz := hz hB
    simp only [hB, not_true, decide_false, cond_false]
    by_cases h2 : (s.size : Int) = z
    · rw [if_neg (by simpa using h2), show ((s.size : Int) != z) = false by simpa using h2]
      simp only [cond_false]
      by_cases h3 : strAt s 0 ≠ hd ∨ strAt s 1 ≠ nCars b
      · rw [if_pos h3, show ((strAt s 0 != hd) || (strAt s 1 != (b.2.2.2.2.2.2.2.length : Int))) = true by rw [Bool.or_eq_true, bne_iff_ne, bne_iff_ne]; exact h3]
        rfl
      · rw [if_neg h3, show ((strAt s 0 != hd) || (strAt s 1 != (b.2.2.2.2.2.2.2.length : Int))) = false by
          rw [Bool.eq_false_iff]
          intro h4
          rw [Bool.or_eq_true, bne_iff_ne, bne_iff_ne] at h4
          exact h3 h4]
        simp only [cond_false]
        rw [ropen_eq s (by omega), if_neg (by omega)]
        by_cases h5 : sum s = 0#16
        · rw [if_pos h5, if_neg (by simpa using h5)]
        · rw [if_neg h5, if_pos h5]
    · rw [if_pos h2, show ((s.size : Int) != z) = true by simpa using h2]
      rfl
  · rw [if_pos hB]
    simp [hB]
theorem opn_ok {b : BldT} {s : ByteArray} {z hd : Int} (h : opn b s z hd = 0) : IsB b ∧ (s.size : Int) = z ∧ strAt s 0 = hd ∧ strAt s 1 = nCars b ∧ sum s = 0#16 := by
  unfold opn at h
  by_cases hB : IsB b
  · rw [if_neg (by simpa using hB)] at h
    by_cases h2 : (s.size : Int) = z
    · rw [if_neg (by simpa using h2)] at h
      by_cases h3 : strAt s 0 ≠ hd ∨ strAt s 1 ≠ nCars b
      · rw [if_pos h3] at h; cases h
      · rw [if_neg h3] at h
        by_cases h5 : sum s = 0#16
        · have ⟨h6, h7⟩ := not_or.1 h3
          exact ⟨hB, h2, Decidable.not_not.1 h6, Decidable.not_not.1 h7, h5⟩
        · rw [if_pos h5] at h; cases h
    · rw [if_pos h2] at h; cases h
  · rw [if_pos hB] at h; cases h
def mid (s : ByteArray) : ByteArray := (s.extract 0 (s.size - 2)).extract 2 (s.size - 2)
theorem popn_eq (b : BldT) (hl0 : b.cars.length ≤ maxLen) (s : ByteArray) (z hd : Int) (hz : IsB b → 14 ≤ z ∧ z ≤ 99000) : FM38 (b, s, z, hd) = if opn b s z hd = 0 then (some (mid s, b), 0) else (none, opn b s z hd) := by
  unfold FM38
  have r1 := strAt_rng s 1
  rw [valid_cond b hl0, wrap_i64_of (x := strAt s 1) (by omega) (by omega)]
  unfold opn
  by_cases hB : IsB b
  · rw [if_neg (show ¬ ¬ IsB b by simpa using hB)]
    have hz := hz hB
    simp only [hB, not_true, decide_false, cond_false]
    by_cases h2 : (s.size : Int) = z
    · rw [if_neg (show ¬ (s.size : Int) ≠ z by simpa using h2), show ((s.size : Int) != z) = false by simpa using h2]
      simp only [cond_false]
      by_cases h3 : strAt s 0 ≠ hd ∨ strAt s 1 ≠ nCars b
      · rw [if_pos h3, show ((strAt s 0 != hd) || (strAt s 1 != (b.2.2.2.2.2.2.2.length : Int))) = true by rw [Bool.or_eq_true, bne_iff_ne, bne_iff_ne]; exact h3]
        rfl
      · rw [if_neg h3, show ((strAt s 0 != hd) || (strAt s 1 != (b.2.2.2.2.2.2.2.length : Int))) = false by
          rw [Bool.eq_false_iff]
          intro h4
          rw [Bool.or_eq_true, bne_iff_ne, bne_iff_ne] at h4
          exact h3 h4]
        simp only [cond_false]
        rw [popen_eq s (by omega), ropen_eq s (by omega), if_neg (by omega)]
        by_cases h5 : sum s = 0#16
        · rw [if_pos h5, if_neg (show ¬ sum s ≠ 0#16 by simpa using h5)]
          simp only [if_true]
          show (some (((s.extract 0 (s.size - 2)).extract (Int.toNat 2) (Int.toNat ((s.extract 0 (s.size - 2)).size : Int))), b), (0 : Int)) = _
          rw [extract_size, show Int.toNat ((min (s.size - 2) s.size - 0 : Nat) : Int) = s.size - 2 by omega]
          rfl
        · rw [if_neg h5, if_pos h5]
          rfl
    · rw [if_pos h2, show ((s.size : Int) != z) = true by simpa using h2]
      rfl
  · rw [if_pos hB]
    simp [hB]
end Go.Proofs.Ytbnihoioblmgkaa.Sp
end

section
/- Bits of a byte; what the reader's methods give (own work). -/
namespace Go.Proofs.Ytbnihoioblmgkaa.Sp
open Go Sy
set_option linter.unusedVariables false
set_option linter.unusedSimpArgs false
def bitv (v : Int) (k : Int) : Bool := (IntKind.u8.wrap ((BitVec.ofInt IntKind.u8.bits (Int.fdiv v (2 ^ (min ((IntKind.u64.wrap k)).toNat IntKind.u8.bits))) &&& BitVec.ofInt IntKind.u8.bits (1 : Int)).toNat : Int)) == (1 : Int)
theorem rbit_eq (s : ByteArray) (a k : Int) : F46 (s, a, k) = bitv (strAt s a) k := rfl
def gl (c v : Int) : List Bool := (G66_4 (v, ((zrow ty4 c).length : Int)) (zrow ty4 c, (0 : Int))).1
theorem gl6_all : (List.range 256).all (fun v => gl 6 v == [bitv v 0, bitv v 1, bitv v 2, bitv v 3, bitv v 4, bitv v 5]) = true := by kernel_rfl
theorem gl3_all : (List.range 256).all (fun v => gl 3 v == [bitv v 0, bitv v 1, bitv v 2]) = true := by kernel_rfl
theorem gl2_all : (List.range 256).all (fun v => gl 2 v == [bitv v 0, bitv v 1]) = true := by kernel_rfl
theorem fl6_all : (List.range 256).all (fun v => flg [bitv v 0, bitv v 1, bitv v 2, bitv v 3, bitv v 4, bitv v 5] == (v : Int) % 64) = true := by kernel_rfl
theorem fl3_all : (List.range 256).all (fun v => flg [bitv v 0, bitv v 1, bitv v 2] == (v : Int) % 8) = true := by kernel_rfl
theorem fl2_all : (List.range 256).all (fun v => flg [bitv v 0, bitv v 1] == (v : Int) % 4) = true := by kernel_rfl
theorem byte_all {p : Nat → Bool} (h : (List.range 256).all p = true) {v : Int} (h0 : 0 ≤ v) (h1 : v ≤ 255) : p v.toNat = true := List.all_eq_true.1 h _ (by simp; omega)
theorem gl6 {v : Int} (h : 0 ≤ v ∧ v ≤ 255) : gl 6 v = [bitv v 0, bitv v 1, bitv v 2, bitv v 3, bitv v 4, bitv v 5] := by
  have := byte_all gl6_all h.1 h.2
  rwa [beq_iff_eq, show ((v.toNat : Nat) : Int) = v by omega] at this
theorem gl3 {v : Int} (h : 0 ≤ v ∧ v ≤ 255) : gl 3 v = [bitv v 0, bitv v 1, bitv v 2] := by
  have := byte_all gl3_all h.1 h.2
  rwa [beq_iff_eq, show ((v.toNat : Nat) : Int) = v by omega] at this
theorem gl2 {v : Int} (h : 0 ≤ v ∧ v ≤ 255) : gl 2 v = [bitv v 0, bitv v 1] := by
  have := byte_all gl2_all h.1 h.2
  rwa [beq_iff_eq, show ((v.toNat : Nat) : Int) = v by omega] at this
theorem fl6 {v : Int} (h : 0 ≤ v ∧ v ≤ 255) : flg [bitv v 0, bitv v 1, bitv v 2, bitv v 3, bitv v 4, bitv v 5] = v % 64 := by
  have := byte_all fl6_all h.1 h.2
  rwa [beq_iff_eq, show ((v.toNat : Nat) : Int) = v by omega] at this
theorem fl3 {v : Int} (h : 0 ≤ v ∧ v ≤ 255) : flg [bitv v 0, bitv v 1, bitv v 2] = v % 8 := by
  have := byte_all fl3_all h.1 h.2
  rwa [beq_iff_eq, show ((v.toNat : Nat) : Int) = v by omega] at this
theorem fl2 {v : Int} (h : 0 ≤ v ∧ v ≤ 255) : flg [bitv v 0, bitv v 1] = v % 4 := by
  have := byte_all fl2_all h.1 h.2
  rwa [beq_iff_eq, show ((v.toNat : Nat) : Int) = v by omega] at this
theorem flb6 : ∀ a b c d e f : Bool, (0 ≤ flg [a, b, c, d, e, f] ∧ flg [a, b, c, d, e, f] ≤ 63) ∧ bitv (flg [a, b, c, d, e, f]) 0 = a ∧ bitv (flg [a, b, c, d, e, f]) 1 = b ∧ bitv (flg [a, b, c, d, e, f]) 2 = c ∧ bitv (flg [a, b, c, d, e, f]) 3 = d ∧ bitv (flg [a, b, c, d, e, f]) 4 = e ∧ bitv (flg [a, b, c, d, e, f]) 5 = f := by decide +kernel
theorem flb3 : ∀ a b c : Bool, (0 ≤ flg [a, b, c] ∧ flg [a, b, c] ≤ 7) ∧ bitv (flg [a, b, c]) 0 = a ∧ bitv (flg [a, b, c]) 1 = b ∧ bitv (flg [a, b, c]) 2 = c := by decide +kernel
theorem flb2 : ∀ a b : Bool, (0 ≤ flg [a, b] ∧ flg [a, b] ≤ 3) ∧ bitv (flg [a, b]) 0 = a ∧ bitv (flg [a, b]) 1 = b := by decide +kernel
def n4 (l : List Int) (k : Nat) : Int := vle ((l.drop k).take 4)
theorem byt_take {l : List Int} (h : Byt l) (k : Nat) : Byt (l.take k) := fun x hx => h x (List.mem_of_mem_take hx)
theorem byt_drop {l : List Int} (h : Byt l) (k : Nat) : Byt (l.drop k) := fun x hx => h x (List.mem_of_mem_drop hx)
theorem byt_get {l : List Int} (h : Byt l) (k : Nat) : 0 ≤ l.getD k 0 ∧ l.getD k 0 ≤ 255 := by
  rcases Nat.lt_or_ge k l.length with h1 | h1
  · rw [List.getD_eq_getElem?_getD, List.getElem?_eq_getElem h1]
    exact h _ (List.getElem_mem h1)
  · rw [List.getD_eq_getElem?_getD, List.getElem?_eq_none h1]
    simp
theorem n4_rng {l : List Int} (h : Byt l) (k : Nat) : u32r (n4 l k) := by
  obtain ⟨h1, h2⟩ := vle_rng _ (byt_take (byt_drop h k) 4)
  have h3 : ((l.drop k).take 4).length ≤ 4 := by simp; omega
  have h4 : (256 : Int) ^ ((l.drop k).take 4).length ≤ 256 ^ 4 := by
    generalize ((l.drop k).take 4).length = m at h3
    have : m = 0 ∨ m = 1 ∨ m = 2 ∨ m = 3 ∨ m = 4 := by omega
    rcases this with rfl | rfl | rfl | rfl | rfl <;> decide
  unfold u32r n4
  omega
theorem stb_byt (s : ByteArray) : Byt (stb s) := stb_rng s
theorem stb_adv (r : Rdr) (k : Nat) : stb (adv r k).1 = (stb r.1).drop k := by
  unfold adv
  simp only
  rw [stb_extract, List.take_of_length_le (by simp)]
theorem get4 (r : Rdr) (hs : 4 ≤ r.1.size) : (F67 ((4 : Int), r)).1 = n4 (stb r.1) 0 := get_val 4 r (by omega) hs
theorem get1 (r : Rdr) (hs : 1 ≤ r.1.size) : (F67 ((1 : Int), r)).1 = (stb r.1).getD 0 0 := by
  have := get_val 1 r (by omega) hs
  rw [show ((1 : Nat) : Int) = 1 from rfl] at this
  rw [this]
  have hl : (stb r.1).length = r.1.size := stb_len _
  cases h : stb r.1 with
  | nil => rw [h] at hl; simp at hl; omega
  | cons a l => simp [vle]
theorem w32 {n : Int} (h : u32r n) : IntKind.u32.wrap n = n := by unfold u32r at h; rw [IntKind.wrap_u32]; omega
theorem bits_1 (r : Rdr) (hB : IsB r.2) (hs : 4 ≤ r.1.size) : (FQ65 r).1 = !flo r.2 (n4 (stb r.1) 0) ∧ (flo r.2 (n4 (stb r.1) 0) = true → (FQ65 r).2.1 = n4 (stb r.1) 0) := by
  unfold FQ65 FQ64
  rw [get4 r hs, w32 (n4_rng (stb_byt _) 0)]
  have e : (Int.fdiv (n4 (stb r.1) 0) (2 ^ (min ((F67 ((4 : Int), r)).2.2.1).toNat IntKind.u32.bits)) == (0 : Int)) = flo r.2 (n4 (stb r.1) 0) := pflo_eq hB _
  rw [e]
  cases flo r.2 (n4 (stb r.1) 0) <;> simp
theorem num_1 (m : Int) (r : Rdr) (hs : 1 ≤ r.1.size) : (FQ63 (m, r)).1 = !decide ((stb r.1).getD 0 0 ≤ m) ∧ ((stb r.1).getD 0 0 ≤ m → (FQ63 (m, r)).2.1 = (stb r.1).getD 0 0) := by
  have hb := byt_get (stb_byt r.1) 0
  unfold FQ63 FQ64
  rw [get1 r hs, wrap_i64_of (by omega) (by omega)]
  by_cases h : (stb r.1).getD 0 0 ≤ m <;> simp only [h, decide_true, decide_false, Bool.not_true, Bool.not_false, cond_true, cond_false, true_and, implies_true, false_implies, and_self]
theorem calls_1 (r : Rdr) (hl : (BldT.cars r.2).length ≤ maxLen) (hs : 8 ≤ r.1.size) : (FQ62 r).1 = !inHall r.2 (n4 (stb r.1) 0, n4 (stb r.1) 4) ∧ (inHall r.2 (n4 (stb r.1) 0, n4 (stb r.1) 4) = true → (FQ62 r).2.1 = (n4 (stb r.1) 0, n4 (stb r.1) 4)) := by
  unfold FQ62 FQ64
  rw [get_rd, get_rd, adv_adv]
  have e4 : n4 (stb (adv r (Int.toNat 4)).1) 0 = n4 (stb r.1) 4 := by
    rw [stb_adv]
    unfold n4
    rw [List.drop_drop]
    rfl
  rw [get4 r (by omega), get4 _ (by rw [adv_size]; show 4 ≤ r.1.size - 4; omega), e4, w32 (n4_rng (stb_byt _) 0), w32 (n4_rng (stb_byt _) 4), adv_2, iscalls_eq r.2 _ hl]
  cases inHall r.2 (n4 (stb r.1) 0, n4 (stb r.1) 4) <;> simp
theorem flags_1 (c m : Int) (r : Rdr) (hm : (IntKind.i64.wrap ((IntKind.i64.wrap ((1 : Int) * 2 ^ (min (c).toNat IntKind.i64.bits))) - (1 : Int))) = m) (hs : 1 ≤ r.1.size) : (FQ66 (c, r)).1 = !decide ((stb r.1).getD 0 0 ≤ m) ∧ ((stb r.1).getD 0 0 ≤ m → (FQ66 (c, r)).2.1 = gl c ((stb r.1).getD 0 0)) := by
  unfold FQ66
  simp only
  rw [hm]
  obtain ⟨h1, h2⟩ := num_1 m r hs
  rw [h1]
  by_cases h : (stb r.1).getD 0 0 ≤ m
  · rw [h2 h]
    simp only [h, decide_true, Bool.not_true, cond_false, true_and, implies_true]
    exact fun _ => rfl
  · simp only [h, decide_false, Bool.not_false, cond_true, false_implies, and_true]
theorem m6 : (IntKind.i64.wrap ((IntKind.i64.wrap ((1 : Int) * 2 ^ (min (6 : Int).toNat IntKind.i64.bits))) - (1 : Int))) = 63 := by kernel_rfl
theorem m3 : (IntKind.i64.wrap ((IntKind.i64.wrap ((1 : Int) * 2 ^ (min (3 : Int).toNat IntKind.i64.bits))) - (1 : Int))) = 7 := by kernel_rfl
theorem m2 : (IntKind.i64.wrap ((IntKind.i64.wrap ((1 : Int) * 2 ^ (min (2 : Int).toNat IntKind.i64.bits))) - (1 : Int))) = 3 := by kernel_rfl
theorem getD_drop (l : List Int) (a k : Nat) : (l.drop a).getD k 0 = l.getD (a + k) 0 := by
  rw [List.getD_eq_getElem?_getD, List.getD_eq_getElem?_getD, List.getElem?_drop]
theorem n4_drop (l : List Int) (a k : Nat) : n4 (l.drop a) k = n4 l (a + k) := by unfold n4; rw [List.drop_drop]
end Go.Proofs.Ytbnihoioblmgkaa.Sp
end

section
/- Cars out of their bytes: a round of the reader (own work). -/
namespace Go.Proofs.Ytbnihoioblmgkaa.Sp
open Go Sy
set_option linter.unusedVariables false
set_option linter.unusedSimpArgs false
def rawCar (l : List Int) : CarIn :=
  ((n4 l 0, bitv (l.getD 4 0) 0, bitv (l.getD 4 0) 1, bitv (l.getD 4 0) 2, bitv (l.getD 4 0) 3), (l.getD 5 0, bitv (l.getD 4 0) 4, l.getD 6 0, bitv (l.getD 4 0) 5), n4 l 7, (vle ((l.drop 11).take 8)).toNat)
def carGood (b : BldT) (l : List Int) : Bool := flo b (n4 l 0) && decide (l.getD 4 0 ≤ 63) && decide (l.getD 5 0 ≤ b.1 - 1) && decide (l.getD 6 0 ≤ 2) && flo b (n4 l 7)
def rawCarO (l : List Int) : CarOut :=
  (((n4 l 0, n4 l 4), bitv (l.getD 16 0) 0), (n4 l 8, n4 l 12), bitv (l.getD 16 0) 1, l.getD 17 0, l.getD 18 0, bitv (l.getD 16 0) 2)
def carGoodO (b : BldT) (l : List Int) : Bool := inHall b (n4 l 0, n4 l 4) && inHall b (n4 l 8, n4 l 12) && decide (l.getD 16 0 ≤ 7) && decide (l.getD 17 0 ≤ 5) && decide (l.getD 18 0 ≤ 4)
theorem sz {r : Rdr} {k n : Nat} (h : k + n ≤ r.1.size) : n ≤ (adv r k).1.size := by rw [adv_size]; omega
theorem p_car (k i : Int) (r : Rdr) (hB : IsB r.2) (x : InT) (e : Int) (hs : 19 ≤ r.1.size) (h0 : 0 ≤ i) (h : i < k) (hk : k ≤ 8) :
    (carGood r.2 (stb r.1) = true → st39_7 k (i, r, x, e) = .next k (i + 1, adv r 19, (x.1, x.2.1, x.2.2 ++ [rawCar (stb r.1)]), e)) ∧
    (carGood r.2 (stb r.1) = false → ∃ y, st39_7 k (i, r, x, e) = .ret y) := by
  have hf := hB.fl
  have hi : decide (i < k) = true := by simpa using h
  obtain ⟨b1, b2⟩ := bits_1 r hB (by omega)
  obtain ⟨f1, f2⟩ := flags_1 6 63 (adv r 4) m6 (sz (by omega))
  obtain ⟨n1, n2⟩ := num_1 (r.2.1 - 1) (adv r 5) (sz (by omega))
  obtain ⟨d1, d2⟩ := num_1 2 (adv r 6) (sz (by omega))
  obtain ⟨c1, c2⟩ := bits_1 (adv r 7) hB (sz (by omega))
  have v8 : (F67 ((8 : Int), adv r 11)).1 = vle (((stb r.1).drop 11).take 8) := by
    rw [← stb_adv]
    exact get_val 8 (adv r 11) (by omega) (sz (by omega))
  have hv4 := byt_get (stb_byt r.1) 4
  simp only [stb_adv, getD_drop, n4_drop, adv_2, Nat.add_zero] at f1 f2 n1 n2 d1 d2 c1 c2
  unfold st39_7 K39_7_1
  simp only [hi, cond_true, bits_rd, flags_rd, num_rd, get_rd, adv_adv, adv_2, Nat.reduceAdd]
  rw [wrap_i64_of (x := r.2.1 - 1) (by omega) (by omega), wrap_i64_of (x := i + 1) (by omega) (by omega)]
  simp only [b1, f1, n1, d1, c1]
  unfold carGood
  cases g1 : flo r.2 (n4 (stb r.1) 0) with
  | false => exact ⟨fun h => by simp at h, fun _ => ⟨_, rfl⟩⟩
  | true =>
    rw [b2 g1]
    by_cases g2 : (stb r.1).getD 4 0 ≤ 63
    · rw [f2 g2, gl6 hv4]
      by_cases g3 : (stb r.1).getD 5 0 ≤ r.2.1 - 1
      · rw [n2 g3]
        by_cases g4 : (stb r.1).getD 6 0 ≤ 2
        · rw [d2 g4]
          cases g5 : flo r.2 (n4 (stb r.1) 7) with
          | false =>
            simp only [g2, g3, g4, decide_true, Bool.not_true, Bool.not_false, cond_true, cond_false, Bool.and_false, Bool.false_eq_true, false_implies, true_and, forall_const]
            exact ⟨_, rfl⟩
          | true =>
            rw [c2 g5, v8]
            simp only [g2, g3, g4, decide_true, Bool.not_true, cond_false, Bool.and_true, Bool.true_eq_false, false_implies, and_true, forall_const]
            rfl
        · simp only [g2, g3, g4, decide_true, decide_false, Bool.not_true, Bool.not_false, cond_true, cond_false, Bool.and_false, Bool.false_and, Bool.false_eq_true, false_implies, true_and, forall_const]
          exact ⟨_, rfl⟩
      · simp only [g2, g3, decide_true, decide_false, Bool.not_true, Bool.not_false, cond_true, cond_false, Bool.and_false, Bool.false_and, Bool.false_eq_true, false_implies, true_and, forall_const]
        exact ⟨_, rfl⟩
    · simp only [g2, decide_true, decide_false, Bool.not_true, Bool.not_false, cond_true, cond_false, Bool.and_false, Bool.false_and, Bool.false_eq_true, false_implies, true_and, forall_const]
      exact ⟨_, rfl⟩
theorem p_carO (k i : Int) (r : Rdr) (hl : (BldT.cars r.2).length ≤ maxLen) (x : OutT) (e : Int) (hs : 19 ≤ r.1.size) (h0 : 0 ≤ i) (h : i < k) (hk : k ≤ 8) :
    (carGoodO r.2 (stb r.1) = true → st48_8 k (i, r, x, e) = .next k (i + 1, adv r 19, (x.1, x.2.1, x.2.2.1, x.2.2.2.1, x.2.2.2.2.1, x.2.2.2.2.2 ++ [rawCarO (stb r.1)]), e)) ∧
    (carGoodO r.2 (stb r.1) = false → ∃ y, st48_8 k (i, r, x, e) = .ret y) := by
  have hi : decide (i < k) = true := by simpa using h
  obtain ⟨b1, b2⟩ := calls_1 r hl (by omega)
  obtain ⟨c1, c2⟩ := calls_1 (adv r 8) hl (sz (by omega))
  obtain ⟨f1, f2⟩ := flags_1 3 7 (adv r 16) m3 (sz (by omega))
  obtain ⟨n1, n2⟩ := num_1 5 (adv r 17) (sz (by omega))
  obtain ⟨d1, d2⟩ := num_1 4 (adv r 18) (sz (by omega))
  have hv := byt_get (stb_byt r.1) 16
  simp only [stb_adv, getD_drop, n4_drop, adv_2, Nat.add_zero, Nat.reduceAdd] at f1 f2 n1 n2 d1 d2 c1 c2
  unfold st48_8 K48_8_1
  simp only [hi, cond_true, calls_rd, flags_rd, num_rd, get_rd, adv_adv, adv_2, Nat.reduceAdd]
  rw [wrap_i64_of (x := i + 1) (by omega) (by omega)]
  simp only [b1, f1, n1, d1, c1]
  unfold carGoodO
  cases g1 : inHall r.2 (n4 (stb r.1) 0, n4 (stb r.1) 4) with
  | false => exact ⟨fun h => by simp at h, fun _ => ⟨_, rfl⟩⟩
  | true =>
    rw [b2 g1]
    cases g5 : inHall r.2 (n4 (stb r.1) 8, n4 (stb r.1) 12) with
    | false => exact ⟨fun h => by simp at h, fun _ => ⟨_, rfl⟩⟩
    | true =>
      rw [c2 g5]
      by_cases g2 : (stb r.1).getD 16 0 ≤ 7
      · rw [f2 g2, gl3 hv]
        by_cases g3 : (stb r.1).getD 17 0 ≤ 5
        · rw [n2 g3]
          by_cases g4 : (stb r.1).getD 18 0 ≤ 4
          · rw [d2 g4]
            simp only [g2, g3, g4, decide_true, Bool.not_true, cond_false, Bool.and_true, Bool.true_eq_false, false_implies, and_true, forall_const]
            rfl
          · simp only [g2, g3, g4, decide_true, decide_false, Bool.not_true, Bool.not_false, cond_true, cond_false, Bool.and_false, Bool.false_and, Bool.false_eq_true, false_implies, true_and, forall_const]
            exact ⟨_, rfl⟩
        · simp only [g2, g3, decide_true, decide_false, Bool.not_true, Bool.not_false, cond_true, cond_false, Bool.and_false, Bool.false_and, Bool.false_eq_true, false_implies, true_and, forall_const]
          exact ⟨_, rfl⟩
      · simp only [g2, decide_true, decide_false, Bool.not_true, Bool.not_false, cond_true, cond_false, Bool.and_false, Bool.false_and, Bool.false_eq_true, false_implies, true_and, forall_const]
        exact ⟨_, rfl⟩
theorem p_cars (n : Nat) (hn : n ≤ 8) (r : Rdr) (hB : IsB r.2) (x : InT) (hx : x.2.2 = []) (e : Int) (hs : r.1.size = 19 * n) :
    ((∀ i, i < n → carGood r.2 ((stb r.1).drop (19 * i)) = true) → R39_7 (n : Int) ((0 : Int), r, x, e) = none ∧ (G39_7 (n : Int) ((0 : Int), r, x, e)).2.2 = ((x.1, x.2.1, (List.range n).map fun i => rawCar ((stb r.1).drop (19 * i))), e)) ∧
    (∀ i, i < n → carGood r.2 ((stb r.1).drop (19 * i)) = false → ∃ y, R39_7 (n : Int) ((0 : Int), r, x, e) = some y) := by
  let s : Nat → Int × Rdr × InT × Int := fun i => ((i : Int), adv r (19 * i), (x.1, x.2.1, (List.range i).map fun i => rawCar ((stb r.1).drop (19 * i))), e)
  have hs0 : s 0 = ((0 : Int), r, x, e) := by
    show ((0 : Int), adv r 0, (x.1, x.2.1, []), e) = _
    rw [← hx]
    congr 2
    unfold adv
    congr 1
    apply stb_inj
    rw [stb_extract, List.take_of_length_le (by simp)]
    rfl
  have hst : ∀ i, i < n → (carGood r.2 ((stb r.1).drop (19 * i)) = true → st39_7 (n : Int) (s i) = .next (n : Int) (s (i + 1))) ∧ (carGood r.2 ((stb r.1).drop (19 * i)) = false → ∃ y, st39_7 (n : Int) (s i) = .ret y) := by
    intro i hi
    have := p_car (n : Int) (i : Int) (adv r (19 * i)) hB (x.1, x.2.1, (List.range i).map fun i => rawCar ((stb r.1).drop (19 * i))) e (by rw [adv_size]; omega) (by omega) (by omega) (by omega)
    rw [stb_adv, adv_2, adv_adv] at this
    refine ⟨fun h => ?_, this.2⟩
    rw [show s i = ((i : Int), adv r (19 * i), (x.1, x.2.1, (List.range i).map fun i => rawCar ((stb r.1).drop (19 * i))), e) from rfl, this.1 h]
    show _ = BOut.next (n : Int) (((i + 1 : Nat) : Int), adv r (19 * (i + 1)), (x.1, x.2.1, (List.range (i + 1)).map fun i => rawCar ((stb r.1).drop (19 * i))), e)
    rw [List.range_succ, List.map_append, show 19 * (i + 1) = 19 * i + 19 by omega]
    rfl
  have hbrk : st39_7 (n : Int) (s n) = .brk (n : Int) (s n) := by
    unfold st39_7
    have : decide ((s n).1 < (n : Int)) = false := by show decide ((n : Int) < (n : Int)) = false; simp
    rw [this]
    rfl
  constructor
  · intro hg
    have := end_row_brk (step := st39_7) (k := (n : Int)) s n (fun i hi => ⟨_, (hst i hi).1 (hg i hi)⟩) hbrk (fuel := Nat.succ (mu39_7 (n : Int) ((0 : Int), r, x, e))) (by unfold mu39_7; simp only; omega)
    rw [hs0] at this
    refine ⟨this.2, ?_⟩
    unfold G39_7
    rw [this.1]
  · intro i hi hb
    have := ret_row (step := st39_7) (k := (n : Int)) s (fun i => retOf st39_7 (n : Int) 1 (s i)) n (fun j hj => by
      cases hg : carGood r.2 ((stb r.1).drop (19 * j)) with
      | true =>
        have h1 := (hst j hj).1 hg
        simp only [retOf, h1]
        exact ⟨_, rfl⟩
      | false =>
        obtain ⟨y, h1⟩ := (hst j hj).2 hg
        simp only [retOf, h1]) hbrk (fuel := Nat.succ (mu39_7 (n : Int) ((0 : Int), r, x, e))) (by unfold mu39_7; simp only; omega)
    rw [hs0] at this
    unfold R39_7
    rw [this]
    cases hf : (List.range n).findSome? (fun i => retOf st39_7 (n : Int) 1 (s i)) with
    | some y => exact ⟨y, rfl⟩
    | none =>
      have h2 := List.findSome?_eq_none_iff.1 hf i (by simpa using hi)
      obtain ⟨y, h1⟩ := (hst i hi).2 hb
      simp only [retOf, h1] at h2
      cases h2
theorem p_carsO (n : Nat) (hn : n ≤ 8) (r : Rdr) (hl : (BldT.cars r.2).length ≤ maxLen) (x : OutT) (hx : x.2.2.2.2.2 = []) (e : Int) (hs : r.1.size = 19 * n) :
    ((∀ i, i < n → carGoodO r.2 ((stb r.1).drop (19 * i)) = true) → R48_8 (n : Int) ((0 : Int), r, x, e) = none ∧ (G48_8 (n : Int) ((0 : Int), r, x, e)).2.2 = ((x.1, x.2.1, x.2.2.1, x.2.2.2.1, x.2.2.2.2.1, (List.range n).map fun i => rawCarO ((stb r.1).drop (19 * i))), e)) ∧
    (∀ i, i < n → carGoodO r.2 ((stb r.1).drop (19 * i)) = false → ∃ y, R48_8 (n : Int) ((0 : Int), r, x, e) = some y) := by
  let s : Nat → Int × Rdr × OutT × Int := fun i => ((i : Int), adv r (19 * i), (x.1, x.2.1, x.2.2.1, x.2.2.2.1, x.2.2.2.2.1, (List.range i).map fun i => rawCarO ((stb r.1).drop (19 * i))), e)
  have hs0 : s 0 = ((0 : Int), r, x, e) := by
    show ((0 : Int), adv r 0, (x.1, x.2.1, x.2.2.1, x.2.2.2.1, x.2.2.2.2.1, []), e) = _
    rw [← hx]
    congr 2
    unfold adv
    congr 1
    apply stb_inj
    rw [stb_extract, List.take_of_length_le (by simp)]
    rfl
  have hst : ∀ i, i < n → (carGoodO r.2 ((stb r.1).drop (19 * i)) = true → st48_8 (n : Int) (s i) = .next (n : Int) (s (i + 1))) ∧ (carGoodO r.2 ((stb r.1).drop (19 * i)) = false → ∃ y, st48_8 (n : Int) (s i) = .ret y) := by
    intro i hi
    have := p_carO (n : Int) (i : Int) (adv r (19 * i)) hl (x.1, x.2.1, x.2.2.1, x.2.2.2.1, x.2.2.2.2.1, (List.range i).map fun i => rawCarO ((stb r.1).drop (19 * i))) e (by rw [adv_size]; omega) (by omega) (by omega) (by omega)
    rw [stb_adv, adv_2, adv_adv] at this
    refine ⟨fun h => ?_, this.2⟩
    rw [show s i = ((i : Int), adv r (19 * i), (x.1, x.2.1, x.2.2.1, x.2.2.2.1, x.2.2.2.2.1, (List.range i).map fun i => rawCarO ((stb r.1).drop (19 * i))), e) from rfl, this.1 h]
    show _ = BOut.next (n : Int) (((i + 1 : Nat) : Int), adv r (19 * (i + 1)), (x.1, x.2.1, x.2.2.1, x.2.2.2.1, x.2.2.2.2.1, (List.range (i + 1)).map fun i => rawCarO ((stb r.1).drop (19 * i))), e)
    rw [List.range_succ, List.map_append, show 19 * (i + 1) = 19 * i + 19 by omega]
    rfl
  have hbrk : st48_8 (n : Int) (s n) = .brk (n : Int) (s n) := by
    unfold st48_8
    have : decide ((s n).1 < (n : Int)) = false := by show decide ((n : Int) < (n : Int)) = false; simp
    rw [this]
    rfl
  constructor
  · intro hg
    have := end_row_brk (step := st48_8) (k := (n : Int)) s n (fun i hi => ⟨_, (hst i hi).1 (hg i hi)⟩) hbrk (fuel := Nat.succ (mu48_8 (n : Int) ((0 : Int), r, x, e))) (by unfold mu48_8; simp only; omega)
    rw [hs0] at this
    refine ⟨this.2, ?_⟩
    unfold G48_8
    rw [this.1]
  · intro i hi hb
    have := ret_row (step := st48_8) (k := (n : Int)) s (fun i => retOf st48_8 (n : Int) 1 (s i)) n (fun j hj => by
      cases hg : carGoodO r.2 ((stb r.1).drop (19 * j)) with
      | true =>
        have h1 := (hst j hj).1 hg
        simp only [retOf, h1]
        exact ⟨_, rfl⟩
      | false =>
        obtain ⟨y, h1⟩ := (hst j hj).2 hg
        simp only [retOf, h1]) hbrk (fuel := Nat.succ (mu48_8 (n : Int) ((0 : Int), r, x, e))) (by unfold mu48_8; simp only; omega)
    rw [hs0] at this
    unfold R48_8
    rw [this]
    cases hf : (List.range n).findSome? (fun i => retOf st48_8 (n : Int) 1 (s i)) with
    | some y => exact ⟨y, rfl⟩
    | none =>
      have h2 := List.findSome?_eq_none_iff.1 hf i (by simpa using hi)
      obtain ⟨y, h1⟩ := (hst i hi).2 hb
      simp only [retOf, h1] at h2
      cases h2
end Go.Proofs.Ytbnihoioblmgkaa.Sp
end

section
/- What the program reads (own work). -/
namespace Go.Proofs.Ytbnihoioblmgkaa.Sp
open Go Sy
set_option linter.unusedVariables false
set_option linter.unusedSimpArgs false
abbrev nc (b : BldT) : Nat := b.2.2.2.2.2.2.2.length
theorem nc_byte {b : BldT} (hB : IsB b) : 0 ≤ nCars b ∧ nCars b ≤ 255 ∧ nc b ≤ 8 := by
  have hc := hB.cn
  have hc : 1 ≤ nc b ∧ nc b ≤ 8 := hc
  show 0 ≤ (nc b : Int) ∧ (nc b : Int) ≤ 255 ∧ nc b ≤ 8
  omega
def rawIn (n : Nat) (l : List Int) : InT := ((n4 l 0, n4 l 4), (l.getD 8 0, l.getD 9 0), (List.range n).map fun i => rawCar (l.drop (10 + 19 * i)))
def goodIn (b : BldT) (l : List Int) : Bool := inHall b (n4 l 0, n4 l 4) && decide (l.getD 8 0 ≤ 8) && decide (l.getD 9 0 ≤ nCars b - 1) && ((l.getD 8 0 != 0) || (l.getD 9 0 == 0)) && (List.range (nc b)).all fun i => carGood b (l.drop (10 + 19 * i))
def rawOut (n : Nat) (l : List Int) : OutT := ((n4 l 0, n4 l 4), (n4 l 8, n4 l 12), bitv (l.getD 16 0) 0, bitv (l.getD 16 0) 1, vle ((l.drop 17).take 2), (List.range n).map fun i => rawCarO (l.drop (19 + 19 * i)))
def goodOut (b : BldT) (l : List Int) : Bool := inHall b (n4 l 0, n4 l 4) && inHall b (n4 l 8, n4 l 12) && decide (l.getD 16 0 ≤ 3) && (List.range (nc b)).all fun i => carGoodO b (l.drop (19 + 19 * i))
theorem p_read (r : Rdr) (hB : IsB r.2) (hl : (BldT.cars r.2).length ≤ maxLen) (hs : r.1.size = 10 + 19 * nc r.2) :
    (goodIn r.2 (stb r.1) = true → (F39 r).1 = (rawIn (nc r.2) (stb r.1), 0)) ∧ (goodIn r.2 (stb r.1) = false → (F39 r).1.2 = 31) := by
  have hc := hB.cn
  have hc : 1 ≤ nc r.2 ∧ nc r.2 ≤ 8 := hc
  obtain ⟨a1, a2⟩ := calls_1 r hl (by omega)
  obtain ⟨k1, k2⟩ := num_1 8 (adv r 8) (sz (by omega))
  obtain ⟨c1, c2⟩ := num_1 ((nc r.2 : Int) - 1) (adv r 9) (sz (by omega))
  simp only [stb_adv, getD_drop, adv_2, Nat.add_zero] at k1 k2 c1 c2
  have hw : IntKind.i64.wrap ((r.2.2.2.2.2.2.2.2.length : Int) - 1) = (nc r.2 : Int) - 1 := by
    show IntKind.i64.wrap ((nc r.2 : Int) - 1) = _
    exact wrap_i64_of (by omega) (by omega)
  have hcars := fun x hx e => p_cars (nc r.2) hc.2 (adv r 10) hB x hx e (by rw [adv_size]; omega)
  simp only [stb_adv, List.drop_drop, adv_2] at hcars
  unfold F39 FD39 K39_1 K39_2 FQ64
  simp only [calls_rd, num_rd, adv_adv, adv_2, Nat.reduceAdd, hw, a1, k1, c1]
  unfold goodIn
  cases g1 : inHall r.2 (n4 (stb r.1) 0, n4 (stb r.1) 4) with
  | false => exact ⟨fun h => by simp at h, fun _ => rfl⟩
  | true =>
    by_cases g2 : (stb r.1).getD 8 0 ≤ 8
    · by_cases g3 : (stb r.1).getD 9 0 ≤ (nc r.2 : Int) - 1
      · rw [a2 g1, k2 g2, c2 g3]
        have g3' : (stb r.1).getD 9 0 ≤ nCars r.2 - 1 := g3
        simp only [g2, g3, g3', decide_true, Bool.not_true, cond_false, Bool.and_true, Bool.true_and]
        cases g4 : (((stb r.1).getD 8 0 != 0) || ((stb r.1).getD 9 0 == 0)) with
        | false => exact ⟨fun h => by simp at h, fun _ => rfl⟩
        | true =>
          simp only [Bool.not_true, cond_false, Bool.true_and]
          obtain ⟨h1, h2⟩ := hcars ((n4 (stb r.1) 0, n4 (stb r.1) 4), ((stb r.1).getD 8 0, (stb r.1).getD 9 0), []) rfl 0
          constructor
          · intro hg
            rw [List.all_eq_true] at hg
            obtain ⟨h3, h4⟩ := h1 fun i hi => hg i (by simpa using hi)
            rw [h3, optR_none, h4]
            rfl
          · intro hg
            have : ∃ i, i < nc r.2 ∧ carGood r.2 ((stb r.1).drop (10 + 19 * i)) = false := by
              rw [List.all_eq_false] at hg
              obtain ⟨i, hi, hb⟩ := hg
              exact ⟨i, by simpa using hi, by simpa using hb⟩
            obtain ⟨i, hi, hb⟩ := this
            obtain ⟨y, hy⟩ := h2 i hi hb
            rw [hy, optR_some]
      · have g3' : ¬ (stb r.1).getD 9 0 ≤ nCars r.2 - 1 := g3
        simp only [g2, g3, g3', decide_true, decide_false, Bool.not_true, Bool.not_false, cond_true, cond_false, Bool.and_false, Bool.false_and, Bool.false_eq_true, false_implies, true_and, forall_const]
    · simp only [g2, decide_true, decide_false, Bool.not_true, Bool.not_false, cond_true, cond_false, Bool.and_false, Bool.false_and, Bool.false_eq_true, false_implies, true_and, forall_const]
theorem get2 (r : Rdr) (hs : 2 ≤ r.1.size) : (F67 ((2 : Int), r)).1 = vle ((stb r.1).take 2) := get_val 2 r (by omega) hs
theorem vle2_rng {l : List Int} (h : Byt l) : 0 ≤ vle (l.take 2) ∧ vle (l.take 2) ≤ 65535 := by
  obtain ⟨h1, h2⟩ := vle_rng _ (byt_take h 2)
  have h3 : (l.take 2).length ≤ 2 := by simp; omega
  have h4 : (256 : Int) ^ (l.take 2).length ≤ 256 ^ 2 := by
    generalize (l.take 2).length = m at h3
    have : m = 0 ∨ m = 1 ∨ m = 2 := by omega
    rcases this with rfl | rfl | rfl <;> decide
  omega
theorem p_readO (r : Rdr) (hB : IsB r.2) (hl : (BldT.cars r.2).length ≤ maxLen) (hs : r.1.size = 19 + 19 * nc r.2) :
    (goodOut r.2 (stb r.1) = true → (F48 r).1 = (rawOut (nc r.2) (stb r.1), 0)) ∧ (goodOut r.2 (stb r.1) = false → (F48 r).1.2 = 31) := by
  have hc := hB.cn
  have hc : 1 ≤ nc r.2 ∧ nc r.2 ≤ 8 := hc
  obtain ⟨a1, a2⟩ := calls_1 r hl (by omega)
  obtain ⟨k1, k2⟩ := calls_1 (adv r 8) hl (sz (by omega))
  obtain ⟨f1, f2⟩ := flags_1 2 3 (adv r 16) m2 (sz (by omega))
  have v2 := get2 (adv r 17) (sz (by omega))
  have hr2 := vle2_rng (byt_drop (stb_byt r.1) 17)
  have hv := byt_get (stb_byt r.1) 16
  simp only [stb_adv, getD_drop, n4_drop, adv_2, Nat.add_zero, Nat.reduceAdd] at k1 k2 f1 f2 v2
  have hcars := fun x hx e => p_carsO (nc r.2) hc.2 (adv r 19) hl x hx e (by rw [adv_size]; omega)
  simp only [stb_adv, List.drop_drop, adv_2] at hcars
  unfold F48 FD48 K48_1
  simp only [calls_rd, flags_rd, get_rd, adv_adv, adv_2, show Int.toNat 2 = 2 from rfl, Nat.reduceAdd, a1, k1, f1, v2]
  unfold goodOut
  cases g1 : inHall r.2 (n4 (stb r.1) 0, n4 (stb r.1) 4) with
  | false => exact ⟨fun h => by simp at h, fun _ => rfl⟩
  | true =>
    cases g5 : inHall r.2 (n4 (stb r.1) 8, n4 (stb r.1) 12) with
    | false => exact ⟨fun h => by simp at h, fun _ => rfl⟩
    | true =>
      by_cases g2 : (stb r.1).getD 16 0 ≤ 3
      · rw [a2 g1, k2 g5, f2 g2, gl2 hv, wrap_i64_of (by omega) (by omega)]
        simp only [g2, decide_true, Bool.not_true, cond_false, Bool.and_true, Bool.true_and]
        obtain ⟨h1, h2⟩ := hcars ((n4 (stb r.1) 0, n4 (stb r.1) 4), (n4 (stb r.1) 8, n4 (stb r.1) 12), bitv ((stb r.1).getD 16 0) 0, bitv ((stb r.1).getD 16 0) 1, vle (((stb r.1).drop 17).take 2), []) rfl 0
        constructor
        · intro hg
          rw [List.all_eq_true] at hg
          obtain ⟨h3, h4⟩ := h1 fun i hi => hg i (by simpa using hi)
          show (optR (R48_8 (nc r.2 : Int) ((0 : Int), adv r 19, ((n4 (stb r.1) 0, n4 (stb r.1) 4), (n4 (stb r.1) 8, n4 (stb r.1) 12), bitv ((stb r.1).getD 16 0) 0, bitv ((stb r.1).getD 16 0) 1, vle (((stb r.1).drop 17).take 2), []), 0)) (fun y => (y.1, (y.2.1, 31))) ((G48_8 (nc r.2 : Int) ((0 : Int), adv r 19, ((n4 (stb r.1) 0, n4 (stb r.1) 4), (n4 (stb r.1) 8, n4 (stb r.1) 12), bitv ((stb r.1).getD 16 0) 0, bitv ((stb r.1).getD 16 0) 1, vle (((stb r.1).drop 17).take 2), []), 0)).2.1, ((G48_8 (nc r.2 : Int) ((0 : Int), adv r 19, ((n4 (stb r.1) 0, n4 (stb r.1) 4), (n4 (stb r.1) 8, n4 (stb r.1) 12), bitv ((stb r.1).getD 16 0) 0, bitv ((stb r.1).getD 16 0) 1, vle (((stb r.1).drop 17).take 2), []), 0)).2.2.1, (0 : Int)))).2 = _
          rw [h3, optR_none, h4]
          rfl
        · intro hg
          have : ∃ i, i < nc r.2 ∧ carGoodO r.2 ((stb r.1).drop (19 + 19 * i)) = false := by
            rw [List.all_eq_false] at hg
            obtain ⟨i, hi, hb⟩ := hg
            exact ⟨i, by simpa using hi, by simpa using hb⟩
          obtain ⟨i, hi, hb⟩ := this
          obtain ⟨y, hy⟩ := h2 i hi hb
          show (optR (R48_8 (nc r.2 : Int) ((0 : Int), adv r 19, ((n4 (stb r.1) 0, n4 (stb r.1) 4), (n4 (stb r.1) 8, n4 (stb r.1) 12), bitv ((stb r.1).getD 16 0) 0, bitv ((stb r.1).getD 16 0) 1, vle (((stb r.1).drop 17).take 2), []), 0)) (fun y => (y.1, (y.2.1, 31))) _).2.2 = _
          rw [hy, optR_some]
      · simp only [g2, decide_true, decide_false, Bool.not_true, Bool.not_false, cond_true, cond_false, Bool.and_false, Bool.false_and, Bool.false_eq_true, false_implies, true_and, forall_const]
theorem n4_take {l : List Int} {k p : Nat} (h : k + 4 ≤ p) : n4 (l.take p) k = n4 l k := by
  unfold n4
  rw [List.drop_take, List.take_take, Nat.min_eq_left (by omega)]
theorem getD_take {l : List Int} {k p : Nat} (h : k < p) : (l.take p).getD k 0 = l.getD k 0 := by
  rw [List.getD_eq_getElem?_getD, List.getD_eq_getElem?_getD, List.getElem?_take, if_pos h]
theorem vle_take {l : List Int} {a k p : Nat} (h : a + k ≤ p) : vle (((l.take p).drop a).take k) = vle ((l.drop a).take k) := by
  rw [List.drop_take, List.take_take, Nat.min_eq_left (by omega)]
theorem rawCar_take {l : List Int} {p : Nat} (h : 19 ≤ p) : rawCar (l.take p) = rawCar l := by
  unfold rawCar
  rw [n4_take (by omega), n4_take (by omega), getD_take (by omega), getD_take (by omega), getD_take (by omega), vle_take (by omega)]
theorem rawCarO_take {l : List Int} {p : Nat} (h : 19 ≤ p) : rawCarO (l.take p) = rawCarO l := by
  unfold rawCarO
  rw [n4_take (by omega), n4_take (by omega), n4_take (by omega), n4_take (by omega), getD_take (by omega), getD_take (by omega), getD_take (by omega)]
theorem carGood_take (b : BldT) {l : List Int} {p : Nat} (h : 19 ≤ p) : carGood b (l.take p) = carGood b l := by
  unfold carGood
  rw [n4_take (by omega), n4_take (by omega), getD_take (by omega), getD_take (by omega), getD_take (by omega)]
theorem carGoodO_take (b : BldT) {l : List Int} {p : Nat} (h : 19 ≤ p) : carGoodO b (l.take p) = carGoodO b l := by
  unfold carGoodO
  rw [n4_take (by omega), n4_take (by omega), n4_take (by omega), n4_take (by omega), getD_take (by omega), getD_take (by omega), getD_take (by omega)]
theorem all_congr {n : Nat} {f g : Nat → Bool} (h : ∀ i, i < n → f i = g i) : (List.range n).all f = (List.range n).all g := by
  rw [Bool.eq_iff_iff, List.all_eq_true, List.all_eq_true]
  exact ⟨fun h1 i hi => by rw [← h i (by simpa using hi)]; exact h1 i hi, fun h1 i hi => by rw [h i (by simpa using hi)]; exact h1 i hi⟩
theorem rawIn_take {n : Nat} {l : List Int} {p : Nat} (h : 10 + 19 * n ≤ p) : rawIn n (l.take p) = rawIn n l := by
  unfold rawIn
  rw [n4_take (by omega), n4_take (by omega), getD_take (by omega), getD_take (by omega)]
  congr 2
  refine List.map_congr_left fun i hi => ?_
  have hi : i < n := by simpa using hi
  rw [List.drop_take, rawCar_take (by omega)]
theorem goodIn_take {b : BldT} {l : List Int} {p : Nat} (h : 10 + 19 * nc b ≤ p) : goodIn b (l.take p) = goodIn b l := by
  unfold goodIn
  rw [n4_take (by omega), n4_take (by omega), getD_take (by omega), getD_take (by omega)]
  congr 1
  refine all_congr fun i hi => ?_
  rw [List.drop_take, carGood_take b (by omega)]
theorem rawOut_take {n : Nat} {l : List Int} {p : Nat} (h : 19 + 19 * n ≤ p) : rawOut n (l.take p) = rawOut n l := by
  unfold rawOut
  rw [n4_take (by omega), n4_take (by omega), n4_take (by omega), n4_take (by omega), getD_take (by omega), vle_take (by omega)]
  congr 5
  refine List.map_congr_left fun i hi => ?_
  have hi : i < n := by simpa using hi
  rw [List.drop_take, rawCarO_take (by omega)]
theorem goodOut_take {b : BldT} {l : List Int} {p : Nat} (h : 19 + 19 * nc b ≤ p) : goodOut b (l.take p) = goodOut b l := by
  unfold goodOut
  rw [n4_take (by omega), n4_take (by omega), n4_take (by omega), n4_take (by omega), getD_take (by omega)]
  congr 1
  refine all_congr fun i hi => ?_
  rw [List.drop_take, carGoodO_take b (by omega)]
theorem stb_mid (s : ByteArray) : stb (mid s) = ((stb s).drop 2).take (s.size - 4) := by
  unfold mid
  rw [stb_extract, stb_extract, List.drop_zero, List.take_take, Nat.min_self, List.drop_take]
  congr 1
theorem mid_size (s : ByteArray) : (mid s).size = s.size - 4 := by
  unfold mid
  rw [extract_size, extract_size]
  omega
def zeroIn : InT := (((0 : Int), (0 : Int)), ((0 : Int), (0 : Int)), [])
def zeroOut : OutT := (((0 : Int), (0 : Int)), ((0 : Int), (0 : Int)), false, false, (0 : Int), [])
def readIn (b : BldT) (s : ByteArray) : InT × Int :=
  if opn b s (14 + 19 * nCars b) 165 = 0 then (if goodIn b ((stb s).drop 2) = true then (rawIn (nc b) ((stb s).drop 2), 0) else (zeroIn, 31)) else (zeroIn, opn b s (14 + 19 * nCars b) 165)
def readOut (b : BldT) (s : ByteArray) : OutT × Int :=
  if opn b s (23 + 19 * nCars b) 90 = 0 then (if goodOut b ((stb s).drop 2) = true then (rawOut (nc b) ((stb s).drop 2), 0) else (zeroOut, 31)) else (zeroOut, opn b s (23 + 19 * nCars b) 90)
theorem valid0 {b : BldT} (hl : b.cars.length ≤ maxLen) (hB : IsB b) : F27 b = 0 := by rw [valid_eq b hl]; exact (vld_zero b).2 hB
theorem rvalid0 {b : BldT} (hl : b.cars.length ≤ maxLen) (hB : IsB b) : F40 b = 0 := by rw [rvalid_eq b hl]; exact (vld_zero b).2 hB
theorem opn_no {b : BldT} (hB : ¬ IsB b) (s : ByteArray) (z hd : Int) : opn b s z hd = 1 := by unfold opn; rw [if_pos hB]
theorem pReadIn_eq (b : BldT) (hl : b.cars.length ≤ maxLen) (s : ByteArray) : F13 (b, s) = readIn b s := by
  unfold F13 oki13 FA13 FB13 KA13_1 readIn
  by_cases hB : IsB b
  · simp only [size_ok hB (valid0 hl hB)]
    rw [popn_eq b hl s (14 + 19 * nCars b) 165 (fun _ => by have := nc_byte hB; omega)]
    by_cases ho : opn b s (14 + 19 * nCars b) 165 = 0
    · rw [if_pos ho, if_pos ho]
      obtain ⟨_, hz, _⟩ := opn_ok ho
      have hz : (s.size : Int) = 14 + 19 * (nc b : Int) := hz
      have hz : s.size = 14 + 19 * nc b := by omega
      show (bif ((F39 (mid s, b)).1.2 != (0 : Int)) then ((((0 : Int), (0 : Int)), ((0 : Int), (0 : Int)), []), (F39 (mid s, b)).1.2) else ((F39 (mid s, b)).1.1, (0 : Int))) = _
      obtain ⟨h1, h2⟩ := p_read (mid s, b) hB hl (by rw [mid_size]; show s.size - 4 = 10 + 19 * nc b; omega)
      have e1 : stb (mid s, b).1 = ((stb s).drop 2).take (s.size - 4) := stb_mid s
      rw [e1] at h1 h2
      rw [goodIn_take (by show 10 + 19 * nc b ≤ _; omega)] at h1 h2
      rw [rawIn_take (by show 10 + 19 * nc b ≤ _; omega)] at h1
      cases hg : goodIn b ((stb s).drop 2) with
      | true =>
        rw [h1 hg]
        rfl
      | false =>
        rw [h2 hg]
        rfl
    · rw [if_neg ho, if_neg ho]
      simp only [Option.isSome_none, cond_false]
      have : (opn b s (14 + 19 * nCars b) 165 != 0) = true := by simpa using ho
      rw [this]
      rfl
  · rw [popn_eq b hl s _ _ (fun h => absurd h hB), opn_no hB, opn_no hB]
    rfl
theorem pReadOut_eq (b : BldT) (hl : b.cars.length ≤ maxLen) (s : ByteArray) : F20 (b, s) = readOut b s := by
  unfold F20 oki20 FA20 FB20 KA20_1 readOut
  by_cases hB : IsB b
  · simp only [size_ok hB (valid0 hl hB)]
    rw [popn_eq b hl s (23 + 19 * nCars b) 90 (fun _ => by have := nc_byte hB; omega)]
    by_cases ho : opn b s (23 + 19 * nCars b) 90 = 0
    · rw [if_pos ho, if_pos ho]
      obtain ⟨_, hz, _⟩ := opn_ok ho
      have hz : (s.size : Int) = 23 + 19 * (nc b : Int) := hz
      have hz : s.size = 23 + 19 * nc b := by omega
      show (bif ((F48 (mid s, b)).1.2 != (0 : Int)) then ((((0 : Int), (0 : Int)), ((0 : Int), (0 : Int)), false, false, (0 : Int), []), (F48 (mid s, b)).1.2) else ((F48 (mid s, b)).1.1, (0 : Int))) = _
      obtain ⟨h1, h2⟩ := p_readO (mid s, b) hB hl (by rw [mid_size]; show s.size - 4 = 19 + 19 * nc b; omega)
      have e1 : stb (mid s, b).1 = ((stb s).drop 2).take (s.size - 4) := stb_mid s
      rw [e1] at h1 h2
      rw [goodOut_take (by show 19 + 19 * nc b ≤ _; omega)] at h1 h2
      rw [rawOut_take (by show 19 + 19 * nc b ≤ _; omega)] at h1
      cases hg : goodOut b ((stb s).drop 2) with
      | true =>
        rw [h1 hg]
        rfl
      | false =>
        rw [h2 hg]
        rfl
    · rw [if_neg ho, if_neg ho]
      simp only [Option.isSome_none, cond_false]
      have : (opn b s (23 + 19 * nCars b) 90 != 0) = true := by simpa using ho
      rw [this]
      rfl
  · rw [popn_eq b hl s _ _ (fun h => absurd h hB), opn_no hB, opn_no hB]
    rfl
end Go.Proofs.Ytbnihoioblmgkaa.Sp
end

section
/- What the reference reads: the same (own work). -/
namespace Go.Proofs.Ytbnihoioblmgkaa.Sp
open Go Sy
set_option linter.unusedVariables false
set_option linter.unusedSimpArgs false
theorem val4 (s : ByteArray) (a : Nat) (h : a + 4 ≤ s.size) (hs : s.size ≤ 99000) : F45 (s, (a : Int), (4 : Int)) = n4 (stb s) a := value_val s a 4 (by omega) h hs
theorem rsets_eq (s : ByteArray) (a : Nat) (h : a + 8 ≤ s.size) (hs : s.size ≤ 99000) : F44 (s, (a : Int)) = (n4 (stb s) a, n4 (stb s) (a + 4)) := by
  unfold F44
  rw [wrap_i64_of (x := (a : Int) + 4) (by omega) (by omega), show (a : Int) + 4 = ((a + 4 : Nat) : Int) by omega]
  simp only [val4 s a (by omega) hs, val4 s (a + 4) (by omega) hs, w32 (n4_rng (stb_byt s) _)]
theorem strAt_get (s : ByteArray) (a : Nat) : strAt s (a : Int) = (stb s).getD a 0 := by rw [strAt_eq]; rfl
theorem iw {n : Nat} (h : n ≤ 1000000) : IntKind.i64.wrap (n : Int) = (n : Int) := wrap_i64_of (by omega) (by omega)
theorem r_car (s : ByteArray) (b : BldT) (i : Nat) (x : InT) (hi : i < nc b) (hn : nc b ≤ 8) (hs : s.size = 14 + 19 * nc b) :
    st19_7 (s, b) ((i : Int), x) = .next (s, b) (((i + 1 : Nat) : Int), (x.1, x.2.1, x.2.2 ++ [rawCar ((stb s).drop (12 + 19 * i))])) := by
  unfold st19_7 K19_7_1
  have h1 : decide ((i : Int) < ((s, b).2.2.2.2.2.2.2.2.length : Int)) = true := by
    show decide ((i : Int) < (nc b : Int)) = true
    simp; omega
  have e0 : IntKind.i64.wrap (12 + IntKind.i64.wrap (19 * (i : Int))) = ((12 + 19 * i : Nat) : Int) := by
    rw [show (19 * (i : Int)) = ((19 * i : Nat) : Int) by omega, iw (by omega), show (12 : Int) + ((19 * i : Nat) : Int) = ((12 + 19 * i : Nat) : Int) by omega, iw (by omega)]
  have ek : ∀ j : Nat, j ≤ 30 → IntKind.i64.wrap (((12 + 19 * i : Nat) : Int) + (j : Int)) = ((12 + 19 * i + j : Nat) : Int) := fun j hj => by
    rw [show ((12 + 19 * i : Nat) : Int) + (j : Int) = ((12 + 19 * i + j : Nat) : Int) by omega, iw (by omega)]
  have e4 := ek 4 (by omega)
  have e5 := ek 5 (by omega)
  have e6 := ek 6 (by omega)
  have e7 := ek 7 (by omega)
  have e11 := ek 11 (by omega)
  rw [show ((4 : Nat) : Int) = 4 from rfl] at e4
  rw [show ((5 : Nat) : Int) = 5 from rfl] at e5
  rw [show ((6 : Nat) : Int) = 6 from rfl] at e6
  rw [show ((7 : Nat) : Int) = 7 from rfl] at e7
  rw [show ((11 : Nat) : Int) = 11 from rfl] at e11
  have v8 : F45 (s, ((12 + 19 * i + 11 : Nat) : Int), (8 : Int)) = vle (((stb s).drop (12 + 19 * i + 11)).take 8) := value_val s (12 + 19 * i + 11) 8 (by omega) (by omega) (by omega)
  have b5 := byt_get (stb_byt s) (12 + 19 * i + 5)
  have b6 := byt_get (stb_byt s) (12 + 19 * i + 6)
  simp only [h1, cond_true, e0, e4, e5, e6, e7, e11, rbit_eq, strAt_get, v8, val4 s (12 + 19 * i) (by omega) (by omega), val4 s (12 + 19 * i + 7) (by omega) (by omega), w32 (n4_rng (stb_byt s) _)]
  rw [wrap_i64_of (x := (stb s).getD (12 + 19 * i + 5) 0) (by omega) (by omega), wrap_i64_of (x := (stb s).getD (12 + 19 * i + 6) 0) (by omega) (by omega), show (i : Int) + 1 = ((i + 1 : Nat) : Int) by omega, iw (by omega)]
  unfold rawCar
  simp only [n4_drop, getD_drop, List.drop_drop, Nat.add_zero]
theorem r_carO (s : ByteArray) (b : BldT) (i : Nat) (x : OutT) (hi : i < nc b) (hn : nc b ≤ 8) (hs : s.size = 23 + 19 * nc b) :
    st21_7 (s, b) ((i : Int), x) = .next (s, b) (((i + 1 : Nat) : Int), (x.1, x.2.1, x.2.2.1, x.2.2.2.1, x.2.2.2.2.1, x.2.2.2.2.2 ++ [rawCarO ((stb s).drop (21 + 19 * i))])) := by
  unfold st21_7 K21_7_1
  have h1 : decide ((i : Int) < ((s, b).2.2.2.2.2.2.2.2.length : Int)) = true := by
    show decide ((i : Int) < (nc b : Int)) = true
    simp; omega
  have e0 : IntKind.i64.wrap (21 + IntKind.i64.wrap (19 * (i : Int))) = ((21 + 19 * i : Nat) : Int) := by
    rw [show (19 * (i : Int)) = ((19 * i : Nat) : Int) by omega, iw (by omega), show (21 : Int) + ((19 * i : Nat) : Int) = ((21 + 19 * i : Nat) : Int) by omega, iw (by omega)]
  have ek : ∀ j : Nat, j ≤ 30 → IntKind.i64.wrap (((21 + 19 * i : Nat) : Int) + (j : Int)) = ((21 + 19 * i + j : Nat) : Int) := fun j hj => by
    rw [show ((21 + 19 * i : Nat) : Int) + (j : Int) = ((21 + 19 * i + j : Nat) : Int) by omega, iw (by omega)]
  have e8 := ek 8 (by omega)
  have e16 := ek 16 (by omega)
  have e17 := ek 17 (by omega)
  have e18 := ek 18 (by omega)
  rw [show ((8 : Nat) : Int) = 8 from rfl] at e8
  rw [show ((16 : Nat) : Int) = 16 from rfl] at e16
  rw [show ((17 : Nat) : Int) = 17 from rfl] at e17
  rw [show ((18 : Nat) : Int) = 18 from rfl] at e18
  have b5 := byt_get (stb_byt s) (21 + 19 * i + 17)
  have b6 := byt_get (stb_byt s) (21 + 19 * i + 18)
  simp only [h1, cond_true, e0, e8, e16, e17, e18, rbit_eq, strAt_get, rsets_eq s (21 + 19 * i) (by omega) (by omega), rsets_eq s (21 + 19 * i + 8) (by omega) (by omega)]
  rw [wrap_i64_of (x := (stb s).getD (21 + 19 * i + 17) 0) (by omega) (by omega), wrap_i64_of (x := (stb s).getD (21 + 19 * i + 18) 0) (by omega) (by omega), show (i : Int) + 1 = ((i + 1 : Nat) : Int) by omega, iw (by omega)]
  unfold rawCarO
  simp only [n4_drop, getD_drop, Nat.add_zero]
theorem r_cars (s : ByteArray) (b : BldT) (p : Int × Int) (c : Int × Int) (hn : nc b ≤ 8) (hs : s.size = 14 + 19 * nc b) :
    (G19_7 (s, b) ((0 : Int), p, c, [])).2 = (p, c, (List.range (nc b)).map fun i => rawCar ((stb s).drop (12 + 19 * i))) := by
  unfold G19_7
  have := (end_row_brk (step := st19_7) (k := (s, b)) (fun i => ((i : Int), p, c, (List.range i).map fun i => rawCar ((stb s).drop (12 + 19 * i)))) (nc b) (fun i hi => ⟨(s, b), by
    try simp only
    rw [r_car s b i _ hi hn hs, List.range_succ, List.map_append]
    rfl⟩) (k' := (s, b)) (y := ((nc b : Int), p, c, (List.range (nc b)).map fun i => rawCar ((stb s).drop (12 + 19 * i)))) (by
    unfold st19_7
    have : decide ((nc b : Int) < ((s, b).2.2.2.2.2.2.2.2.length : Int)) = false := by
      show decide ((nc b : Int) < (nc b : Int)) = false
      simp
    rw [this]
    rfl) (fuel := Nat.succ (mu19_7 (s, b) ((0 : Int), p, c, []))) (by
      show nc b < Nat.succ (((nc b : Int) - 0).toNat)
      omega)).1
  exact congrArg Prod.snd this
theorem r_carsO (s : ByteArray) (b : BldT) (p q : Int × Int) (f g : Bool) (e : Int) (hn : nc b ≤ 8) (hs : s.size = 23 + 19 * nc b) :
    (G21_7 (s, b) ((0 : Int), p, q, f, g, e, [])).2 = (p, q, f, g, e, (List.range (nc b)).map fun i => rawCarO ((stb s).drop (21 + 19 * i))) := by
  unfold G21_7
  have := (end_row_brk (step := st21_7) (k := (s, b)) (fun i => ((i : Int), p, q, f, g, e, (List.range i).map fun i => rawCarO ((stb s).drop (21 + 19 * i)))) (nc b) (fun i hi => ⟨(s, b), by
    try simp only
    rw [r_carO s b i _ hi hn hs, List.range_succ, List.map_append]
    rfl⟩) (k' := (s, b)) (y := ((nc b : Int), p, q, f, g, e, (List.range (nc b)).map fun i => rawCarO ((stb s).drop (21 + 19 * i)))) (by
    unfold st21_7
    have : decide ((nc b : Int) < ((s, b).2.2.2.2.2.2.2.2.length : Int)) = false := by
      show decide ((nc b : Int) < (nc b : Int)) = false
      simp
    rw [this]
    rfl) (fuel := Nat.succ (mu21_7 (s, b) ((0 : Int), p, q, f, g, e, []))) (by
      show nc b < Nat.succ (((nc b : Int) - 0).toNat)
      omega)).1
  exact congrArg Prod.snd this
theorem le_take (l : List Int) (h : Byt l) (k : Nat) (hk : k ≤ l.length) : le (vle (l.take k)) k = l.take k := by
  have := le_vle (l.take k) (byt_take h k)
  rwa [List.length_take, Nat.min_eq_left hk] at this
theorem u64_n4 {l : List Int} (h : Byt l) (k : Nat) : IntKind.u64.wrap (n4 l k) = n4 l k := by
  have := n4_rng h k
  unfold u32r at this
  rw [IntKind.wrap_u64]
  omega
theorem le4 {l : List Int} (h : Byt l) (k : Nat) (hk : k + 4 ≤ l.length) : le (IntKind.u64.wrap (n4 l k)) 4 = (l.drop k).take 4 := by
  rw [u64_n4 h]
  exact le_take (l.drop k) (byt_drop h k) 4 (by simp; omega)
theorem le1 {v : Int} (h : 0 ≤ v ∧ v ≤ 255) : le (IntKind.u64.wrap v) 1 = [v] := by
  simp only [le]
  rw [IntKind.wrap_u64, IntKind.wrap_u8]
  congr 1
  omega
theorem le1' {v : Int} (h : 0 ≤ v ∧ v ≤ 255) : le v 1 = [v] := by
  simp only [le]
  rw [IntKind.wrap_u8]
  congr 1
  omega
theorem ce_eq {l : List Int} (h : Byt l) (k : Nat) (hk : k + 8 ≤ l.length) : ce (n4 l k, n4 l (k + 4)) = (l.drop k).take 8 := by
  unfold ce
  rw [le4 h k (by omega), le4 h (k + 4) (by omega), show 8 = 4 + 4 from rfl, List.take_add, List.drop_drop]
theorem one_eq {l : List Int} (k : Nat) (hk : k < l.length) : (l.drop k).take 1 = [l.getD k 0] := by
  rw [List.drop_eq_getElem_cons hk, List.getD_eq_getElem?_getD, List.getElem?_eq_getElem hk]
  rfl
theorem carE_raw {c : List Int} (h : Byt c) (hl : 19 ≤ c.length) : carE (rawCar c) = c.take 4 ++ [c.getD 4 0 % 64] ++ (c.drop 5).take 14 := by
  have h4 := byt_get h 4
  unfold carE rawCar
  simp only
  rw [le4 h 0 (by omega), le4 h 7 (by omega), fl6 h4, le1 (byt_get h 5), le1 (byt_get h 6), le1' (by omega)]
  have e8 : ((vle ((c.drop 11).take 8)).toNat : Int) = vle ((c.drop 11).take 8) := by
    have := (vle_rng _ (byt_take (byt_drop h 11) 8)).1
    omega
  rw [e8, le_take (c.drop 11) (byt_drop h 11) 8 (by simp; omega), List.drop_zero]
  rw [show (c.drop 5).take 14 = (c.drop 5).take 1 ++ ((c.drop 6).take 1 ++ ((c.drop 7).take 4 ++ (c.drop 11).take 8)) by
    rw [show 14 = 1 + (1 + (4 + 8)) from rfl, List.take_add, List.take_add, List.take_add, List.drop_drop, List.drop_drop, List.drop_drop], one_eq 5 (by omega), one_eq 6 (by omega)]
  simp only [List.append_assoc]
theorem car_split (c : List Int) (hl : 19 ≤ c.length) : c.take 19 = c.take 4 ++ [c.getD 4 0] ++ (c.drop 5).take 14 := by
  rw [← one_eq 4 (by omega), show 19 = 4 + (1 + 14) from rfl, List.take_add, List.take_add, List.drop_drop, List.append_assoc]
theorem carE_iff {c : List Int} (h : Byt c) (hl : 19 ≤ c.length) : carE (rawCar c) = c.take 19 ↔ c.getD 4 0 ≤ 63 := by
  have h4 := byt_get h 4
  rw [carE_raw h hl, car_split c hl, List.append_left_inj, List.append_right_inj]
  simp only [List.cons.injEq, and_true]
  omega
theorem carO_raw {c : List Int} (h : Byt c) (hl : 19 ≤ c.length) : carO (rawCarO c) = c.take 16 ++ [c.getD 16 0 % 8] ++ (c.drop 17).take 2 := by
  have h4 := byt_get h 16
  unfold carO rawCarO
  simp only
  rw [show ce (n4 c 0, n4 c 4) = (c.drop 0).take 8 from ce_eq h 0 (by omega), show ce (n4 c 8, n4 c 12) = (c.drop 8).take 8 from ce_eq h 8 (by omega), fl3 h4, le1 (byt_get h 17), le1 (byt_get h 18), le1' (by omega), List.drop_zero]
  rw [show c.take 16 = c.take 8 ++ (c.drop 8).take 8 by rw [show 16 = 8 + 8 from rfl, List.take_add], show (c.drop 17).take 2 = (c.drop 17).take 1 ++ (c.drop 18).take 1 by
    rw [show 2 = 1 + 1 from rfl, List.take_add, List.drop_drop], one_eq 17 (by omega), one_eq 18 (by omega)]
  simp only [List.append_assoc]
theorem carO_split (c : List Int) (hl : 19 ≤ c.length) : c.take 19 = c.take 16 ++ [c.getD 16 0] ++ (c.drop 17).take 2 := by
  rw [← one_eq 16 (by omega), show 19 = 16 + (1 + 2) from rfl, List.take_add, List.take_add, List.drop_drop, List.append_assoc]
theorem carO_iff {c : List Int} (h : Byt c) (hl : 19 ≤ c.length) : carO (rawCarO c) = c.take 19 ↔ c.getD 16 0 ≤ 7 := by
  have h4 := byt_get h 16
  rw [carO_raw h hl, carO_split c hl, List.append_left_inj, List.append_right_inj]
  simp only [List.cons.injEq, and_true]
  omega
theorem flat_iff {f g : Nat → List Int} {k : Nat} : ∀ (n : Nat) (hf : ∀ i, i < n → (f i).length = k) (hg : ∀ i, i < n → (g i).length = k), ((List.range n).flatMap f = (List.range n).flatMap g ↔ ∀ i, i < n → f i = g i)
  | 0, _, _ => by simp
  | n + 1, hf, hg => by
    have ih := flat_iff n (fun i hi => hf i (by omega)) (fun i hi => hg i (by omega))
    have hl : ((List.range n).flatMap f).length = ((List.range n).flatMap g).length := by
      rw [List.length_flatMap, List.length_flatMap]
      congr 1
      refine List.map_congr_left fun i hi => ?_
      have hi : i < n := by simpa using hi
      rw [hf i (by omega), hg i (by omega)]
    rw [List.range_succ, List.flatMap_append, List.flatMap_append]
    simp only [List.flatMap_cons, List.flatMap_nil, List.append_nil]
    constructor
    · intro h i hi
      obtain ⟨h1, h2⟩ := List.append_inj h hl
      rcases Nat.lt_or_ge i n with h3 | h3
      · exact ih.1 h1 i h3
      · have : i = n := by omega
        subst this
        exact h2
    · intro h
      rw [ih.2 fun i hi => h i (by omega), h n (by omega)]
theorem chunks (l : List Int) : ∀ n : Nat, l.take (19 * n) = (List.range n).flatMap fun i => (l.drop (19 * i)).take 19
  | 0 => by simp
  | n + 1 => by
    rw [List.range_succ, List.flatMap_append, ← chunks l n, show 19 * (n + 1) = 19 * n + 19 by omega, List.take_add]
    simp
theorem inRow_raw (h0 : Int) (n : Nat) {l : List Int} (h : Byt l) (hl : 10 + 19 * n ≤ l.length) : inRow h0 (rawIn n l) = 165 :: h0 :: l.take (10 + 19 * n) ↔ ∀ i, i < n → (l.drop (10 + 19 * i)).getD 4 0 ≤ 63 := by
  have e : l.take (10 + 19 * n) = (l.drop 0).take 8 ++ [l.getD 8 0] ++ [l.getD 9 0] ++ (List.range n).flatMap fun i => (l.drop (10 + 19 * i)).take 19 := by
    have hc := chunks (l.drop 10) n
    simp only [List.drop_drop] at hc
    rw [← hc, ← one_eq 8 (by omega), ← one_eq 9 (by omega), show 10 + 19 * n = 8 + (1 + (1 + 19 * n)) by omega, List.take_add, List.take_add, List.take_add]
    simp only [List.drop_drop, List.append_assoc, List.drop_zero]
  have e2 : inRow h0 (rawIn n l) = 165 :: h0 :: ((l.drop 0).take 8 ++ [l.getD 8 0] ++ [l.getD 9 0] ++ (List.range n).flatMap fun i => carE (rawCar (l.drop (10 + 19 * i)))) := by
    unfold inRow rawIn
    simp only
    rw [show ce (n4 l 0, n4 l 4) = (l.drop 0).take 8 from ce_eq h 0 (by omega), le1 (byt_get h 8), le1 (byt_get h 9), List.flatMap_map]
    simp only [List.append_assoc, List.cons_append, List.nil_append]
  rw [e, e2]
  simp only [List.cons.injEq, true_and, List.append_right_inj]
  rw [flat_iff (k := 19) n (fun i hi => carE_len _) (fun i hi => by rw [List.length_take, List.length_drop]; omega)]
  constructor
  · intro h1 i hi
    exact (carE_iff (byt_drop h _) (by rw [List.length_drop]; omega)).1 (h1 i hi)
  · intro h1 i hi
    exact (carE_iff (byt_drop h _) (by rw [List.length_drop]; omega)).2 (h1 i hi)
theorem outRow_raw (h0 : Int) (n : Nat) {l : List Int} (h : Byt l) (hl : 19 + 19 * n ≤ l.length) : outRow h0 (rawOut n l) = 90 :: h0 :: l.take (19 + 19 * n) ↔ l.getD 16 0 ≤ 3 ∧ ∀ i, i < n → (l.drop (19 + 19 * i)).getD 16 0 ≤ 7 := by
  have h16 := byt_get h 16
  have e : l.take (19 + 19 * n) = ((l.drop 0).take 8 ++ (l.drop 8).take 8) ++ ([l.getD 16 0] ++ ((l.drop 17).take 2 ++ (List.range n).flatMap fun i => (l.drop (19 + 19 * i)).take 19)) := by
    have hc := chunks (l.drop 19) n
    simp only [List.drop_drop] at hc
    rw [← hc, ← one_eq 16 (by omega), show 19 + 19 * n = 8 + (8 + (1 + (2 + 19 * n))) by omega, List.take_add, List.take_add, List.take_add, List.take_add]
    simp only [List.drop_drop, List.append_assoc, List.drop_zero]
  have e2 : outRow h0 (rawOut n l) = 90 :: h0 :: (((l.drop 0).take 8 ++ (l.drop 8).take 8) ++ ([l.getD 16 0 % 4] ++ ((l.drop 17).take 2 ++ (List.range n).flatMap fun i => carO (rawCarO (l.drop (19 + 19 * i)))))) := by
    unfold outRow rawOut
    simp only
    have hv := vle2_rng (byt_drop h 17)
    have ew : IntKind.u64.wrap (vle ((l.drop 17).take 2)) = vle ((l.drop 17).take 2) := by rw [IntKind.wrap_u64]; omega
    rw [show ce (n4 l 0, n4 l 4) = (l.drop 0).take 8 from ce_eq h 0 (by omega), show ce (n4 l 8, n4 l 12) = (l.drop 8).take 8 from ce_eq h 8 (by omega), fl2 h16, le1' (by omega), ew, le_take (l.drop 17) (byt_drop h 17) 2 (by simp; omega), List.flatMap_map]
    simp only [List.append_assoc, List.cons_append, List.nil_append]
  rw [e, e2]
  simp only [List.cons.injEq, true_and, List.append_right_inj, List.cons_append, List.nil_append]
  rw [flat_iff (k := 19) n (fun i hi => carO_len _) (fun i hi => by rw [List.length_take, List.length_drop]; omega)]
  constructor
  · intro ⟨h0, h1⟩
    exact ⟨by omega, fun i hi => (carO_iff (byt_drop h _) (by rw [List.length_drop]; omega)).1 (h1 i hi)⟩
  · intro ⟨h0, h1⟩
    exact ⟨by omega, fun i hi => (carO_iff (byt_drop h _) (by rw [List.length_drop]; omega)).2 (h1 i hi)⟩
end Go.Proofs.Ytbnihoioblmgkaa.Sp
end

section
/- Reading: the reference as the program; what is written is read back (own work). -/
namespace Go.Proofs.Ytbnihoioblmgkaa.Sp
open Go Sy
set_option linter.unusedVariables false
set_option linter.unusedSimpArgs false
theorem byt_app {l m : List Int} (h1 : Byt l) (h2 : Byt m) : Byt (l ++ m) := fun x hx => (List.mem_append.1 hx).elim (h1 x) (h2 x)
theorem byt_cons {a : Int} {l : List Int} (h1 : 0 ≤ a ∧ a ≤ 255) (h2 : Byt l) : Byt (a :: l) := fun x hx => (List.mem_cons.1 hx).elim (fun e => e ▸ h1) (h2 x)
theorem byt_nil : Byt [] := fun x hx => by cases hx
theorem byt_flat {α : Type} {f : α → List Int} (h : ∀ a, Byt (f a)) (l : List α) : Byt (l.flatMap f) := fun x hx => by
  obtain ⟨a, _, ha⟩ := List.mem_flatMap.1 hx
  exact h a x ha
theorem ce_byt (c : Int × Int) : Byt (ce c) := byt_app (le_byt _ _) (le_byt _ _)
theorem carE_byt (c : CarIn) : Byt (carE c) := byt_app (byt_app (byt_app (byt_app (byt_app (le_byt _ _) (le_byt _ _)) (le_byt _ _)) (le_byt _ _)) (le_byt _ _)) (le_byt _ _)
theorem carO_byt (c : CarOut) : Byt (carO c) := byt_app (byt_app (byt_app (byt_app (ce_byt _) (ce_byt _)) (le_byt _ _)) (le_byt _ _)) (le_byt _ _)
theorem inRow_byt {n : Int} (hn : 0 ≤ n ∧ n ≤ 255) (x : InT) : Byt (inRow n x) := byt_app (byt_app (byt_app (byt_app (byt_cons (by omega) (byt_cons hn byt_nil)) (ce_byt _)) (le_byt _ _)) (le_byt _ _)) (byt_flat carE_byt _)
theorem outRow_byt {n : Int} (hn : 0 ≤ n ∧ n ≤ 255) (x : OutT) : Byt (outRow n x) := byt_app (byt_app (byt_app (byt_app (byt_app (byt_cons (by omega) (byt_cons hn byt_nil)) (ce_byt _)) (ce_byt _)) (le_byt _ _)) (le_byt _ _)) (byt_flat carO_byt _)
theorem seal_row {row : List Int} (hb : Byt row) {s : ByteArray} (hs : sum s = 0#16) (h2 : 2 ≤ s.size) (hl : row.length = s.size - 2) : sealT (bts row) = s ↔ row = (stb s).take (s.size - 2) := by
  constructor
  · intro h
    rw [← h, stb_seal, stb_bts _ hb, sealT_size, bts_size]
    simp
  · intro h
    have e : bts row = s.extract 0 (s.size - 2) := by
      apply stb_inj
      rw [stb_bts _ hb, stb_extract, List.drop_zero]
      exact h
    rw [e]
    exact (seal_iff s h2).2 hs
theorem head_row {s : ByteArray} {a b : Int} (h2 : 2 ≤ s.size) (h0 : strAt s 0 = a) (h1 : strAt s 1 = b) (k : Nat) : (stb s).take (2 + k) = a :: b :: ((stb s).drop 2).take k := by
  have hl : 2 ≤ (stb s).length := by simpa using h2
  rw [show (0 : Int) = ((0 : Nat) : Int) from rfl, strAt_get] at h0
  rw [show (1 : Int) = ((1 : Nat) : Int) from rfl, strAt_get] at h1
  rw [List.take_add, show 2 = 1 + 1 from rfl, List.take_add, show (stb s).take 1 = ((stb s).drop 0).take 1 from rfl, one_eq 0 (by omega), one_eq 1 (by omega), h0, h1]
  rfl
theorem carGood_eq (b : BldT) {c : List Int} (h : Byt c) : carGood b c = (carInOk b (rawCar c) && decide (c.getD 4 0 ≤ 63)) := by
  have h5 := byt_get h 5
  have h6 := byt_get h 6
  unfold carGood carInOk rawCar inR
  rw [Bool.eq_iff_iff]
  simp only [Bool.and_eq_true, decide_eq_true_eq]
  constructor
  · rintro ⟨⟨⟨⟨a, b'⟩, c'⟩, d⟩, e⟩
    exact ⟨⟨⟨⟨a, e⟩, h5.1, c'⟩, h6.1, d⟩, b'⟩
  · rintro ⟨⟨⟨⟨a, e⟩, _, c'⟩, _, d⟩, b'⟩
    exact ⟨⟨⟨⟨a, b'⟩, c'⟩, d⟩, e⟩
theorem carGoodO_eq (b : BldT) {c : List Int} (h : Byt c) : carGoodO b c = (carOutOk b (rawCarO c) && decide (c.getD 16 0 ≤ 7)) := by
  have h5 := byt_get h 17
  have h6 := byt_get h 18
  unfold carGoodO carOutOk rawCarO inR
  rw [Bool.eq_iff_iff]
  simp only [Bool.and_eq_true, decide_eq_true_eq]
  constructor
  · rintro ⟨⟨⟨⟨a, b'⟩, c'⟩, d⟩, e⟩
    exact ⟨⟨⟨⟨a, b'⟩, h5.1, d⟩, h6.1, e⟩, c'⟩
  · rintro ⟨⟨⟨⟨a, b'⟩, _, d⟩, _, e⟩, c'⟩
    exact ⟨⟨⟨⟨a, b'⟩, c'⟩, d⟩, e⟩
theorem goodIn_eq (b : BldT) {l : List Int} (h : Byt l) : goodIn b l = (inOk b (rawIn (nc b) l) && (List.range (nc b)).all fun i => decide ((l.drop (10 + 19 * i)).getD 4 0 ≤ 63)) := by
  have h8 := byt_get h 8
  have h9 := byt_get h 9
  unfold goodIn inOk rawIn inR
  rw [Bool.eq_iff_iff]
  simp only [Bool.and_eq_true, decide_eq_true_eq, List.all_eq_true, List.mem_range, List.length_map, List.length_range, beq_iff_eq, Bool.or_eq_true, bne_iff_ne, Bool.not_eq_true', Bool.and_eq_false_imp, List.mem_map, forall_exists_index, and_imp, forall_apply_eq_imp_iff₂, bne_eq_false_iff_eq]
  constructor
  · rintro ⟨⟨⟨⟨a, b1⟩, b2⟩, b3⟩, b4⟩
    refine ⟨⟨⟨⟨⟨⟨a, h8.1, b1⟩, h9.1, b2⟩, fun h => b3.elim (fun h2 => absurd h h2) id⟩, trivial⟩, fun i hi => ?_⟩, fun i hi => ?_⟩
    · have := b4 i hi
      rw [carGood_eq b (byt_drop h _), Bool.and_eq_true] at this
      exact this.1
    · have := b4 i hi
      rw [carGood_eq b (byt_drop h _), Bool.and_eq_true, decide_eq_true_eq] at this
      exact this.2
  · rintro ⟨⟨⟨⟨⟨⟨a, _, b1⟩, _, b2⟩, b3⟩, _⟩, b4⟩, b5⟩
    refine ⟨⟨⟨⟨a, b1⟩, b2⟩, ?_⟩, fun i hi => ?_⟩
    · by_cases h0 : l.getD 8 0 = 0
      · exact Or.inr (b3 h0)
      · exact Or.inl h0
    · rw [carGood_eq b (byt_drop h _), Bool.and_eq_true, decide_eq_true_eq]
      exact ⟨b4 i hi, b5 i hi⟩
theorem goodOut_eq (b : BldT) {l : List Int} (h : Byt l) : goodOut b l = (outOk b (rawOut (nc b) l) && (decide (l.getD 16 0 ≤ 3) && (List.range (nc b)).all fun i => decide ((l.drop (19 + 19 * i)).getD 16 0 ≤ 7))) := by
  have h2 := vle2_rng (byt_drop h 17)
  unfold goodOut outOk rawOut inR
  rw [Bool.eq_iff_iff]
  simp only [Bool.and_eq_true, decide_eq_true_eq, List.all_eq_true, List.mem_range, List.length_map, List.length_range, beq_iff_eq, List.mem_map, forall_exists_index, and_imp, forall_apply_eq_imp_iff₂]
  constructor
  · rintro ⟨⟨⟨a, b1⟩, b2⟩, b4⟩
    refine ⟨⟨⟨⟨⟨a, b1⟩, h2⟩, trivial⟩, fun i hi => ?_⟩, b2, fun i hi => ?_⟩
    · have := b4 i hi
      rw [carGoodO_eq b (byt_drop h _), Bool.and_eq_true] at this
      exact this.1
    · have := b4 i hi
      rw [carGoodO_eq b (byt_drop h _), Bool.and_eq_true, decide_eq_true_eq] at this
      exact this.2
  · rintro ⟨⟨⟨⟨⟨a, b1⟩, _⟩, _⟩, b4⟩, b2, b5⟩
    refine ⟨⟨⟨a, b1⟩, b2⟩, fun i hi => ?_⟩
    rw [carGoodO_eq b (byt_drop h _), Bool.and_eq_true, decide_eq_true_eq]
    exact ⟨b4 i hi, b5 i hi⟩
theorem good_frame {b : BldT} {s : ByteArray} (ho : opn b s (14 + 19 * nCars b) 165 = 0) : (goodIn b ((stb s).drop 2) = true → frameIn b (rawIn (nc b) ((stb s).drop 2)) = (s, 0)) ∧ (goodIn b ((stb s).drop 2) = false → ((frameIn b (rawIn (nc b) ((stb s).drop 2))).2 ≠ 0 ∨ (frameIn b (rawIn (nc b) ((stb s).drop 2))).1 ≠ s)) := by
  obtain ⟨hB, hz, h0, h1, hs⟩ := opn_ok ho
  obtain ⟨hn0, hn1, hn2⟩ := nc_byte hB
  have hz : (s.size : Int) = 14 + 19 * (nc b : Int) := hz
  have hz : s.size = 14 + 19 * nc b := by omega
  have hl : Byt ((stb s).drop 2) := byt_drop (stb_byt s) 2
  have hrow := seal_row (inRow_byt ⟨hn0, hn1⟩ (rawIn (nc b) ((stb s).drop 2))) hs (by omega) (by rw [inRow_len]; show 12 + 19 * ((List.range (nc b)).map _).length = _; rw [List.length_map, List.length_range]; omega)
  rw [show s.size - 2 = 2 + (10 + 19 * nc b) by omega, head_row (by omega) h0 h1, inRow_raw (nCars b) (nc b) hl (by rw [List.length_drop, stb_len]; omega)] at hrow
  rw [goodIn_eq b hl]
  unfold frameIn
  simp only [hB, decide_true, Bool.true_and]
  cases hi : inOk b (rawIn (nc b) ((stb s).drop 2)) with
  | false => exact ⟨fun h => by simp at h, fun _ => Or.inl (by simp)⟩
  | true =>
    simp only [cond_true, Bool.true_and, Prod.mk.injEq, and_true]
    rw [List.all_eq_true, List.all_eq_false]
    simp only [List.mem_range, decide_eq_true_eq]
    constructor
    · exact fun h => hrow.2 h
    · rintro ⟨i, hi, h⟩
      exact Or.inr fun h2 => h (hrow.1 h2 i hi)
theorem good_frameO {b : BldT} {s : ByteArray} (ho : opn b s (23 + 19 * nCars b) 90 = 0) : (goodOut b ((stb s).drop 2) = true → frameOut b (rawOut (nc b) ((stb s).drop 2)) = (s, 0)) ∧ (goodOut b ((stb s).drop 2) = false → ((frameOut b (rawOut (nc b) ((stb s).drop 2))).2 ≠ 0 ∨ (frameOut b (rawOut (nc b) ((stb s).drop 2))).1 ≠ s)) := by
  obtain ⟨hB, hz, h0, h1, hs⟩ := opn_ok ho
  obtain ⟨hn0, hn1, hn2⟩ := nc_byte hB
  have hz : (s.size : Int) = 23 + 19 * (nc b : Int) := hz
  have hz : s.size = 23 + 19 * nc b := by omega
  have hl : Byt ((stb s).drop 2) := byt_drop (stb_byt s) 2
  have hrow := seal_row (outRow_byt ⟨hn0, hn1⟩ (rawOut (nc b) ((stb s).drop 2))) hs (by omega) (by rw [outRow_len]; show 21 + 19 * ((List.range (nc b)).map _).length = _; rw [List.length_map, List.length_range]; omega)
  rw [show s.size - 2 = 2 + (19 + 19 * nc b) by omega, head_row (by omega) h0 h1, outRow_raw (nCars b) (nc b) hl (by rw [List.length_drop, stb_len]; omega)] at hrow
  rw [goodOut_eq b hl]
  unfold frameOut
  simp only [hB, decide_true, Bool.true_and]
  cases hi : outOk b (rawOut (nc b) ((stb s).drop 2)) with
  | false => exact ⟨fun h => by simp at h, fun _ => Or.inl (by simp)⟩
  | true =>
    simp only [cond_true, Bool.true_and, Prod.mk.injEq, and_true]
    constructor
    · intro h
      rw [Bool.and_eq_true, List.all_eq_true, decide_eq_true_eq] at h
      simp only [List.mem_range, decide_eq_true_eq] at h
      exact hrow.2 h
    · intro h
      refine Or.inr fun h2 => ?_
      obtain ⟨h3, h4⟩ := hrow.1 h2
      rw [Bool.and_eq_false_iff, decide_eq_false_iff_not, List.all_eq_false] at h
      simp only [List.mem_range, decide_eq_true_eq] at h
      rcases h with h | ⟨i, hi, h⟩
      · exact h h3
      · exact h (h4 i hi)
theorem rReadIn_eq (b : BldT) (hl : b.cars.length ≤ maxLen) (s : ByteArray) : F19 (b, s) = readIn b s := by
  unfold F19 readIn
  by_cases hB : IsB b
  · obtain ⟨hn0, hn1, hn2⟩ := nc_byte hB
    simp only [rsize_ok hB (rvalid0 hl hB)]
    have e0 : F43 (b, s, (14 + 19 * nCars b), (165 : Int)) = opn b s (14 + 19 * nCars b) 165 := ropn_eq b hl s _ _ (fun _ => by omega)
    rw [e0]
    by_cases ho : opn b s (14 + 19 * nCars b) 165 = 0
    · rw [if_pos ho, ho]
      obtain ⟨_, hz, _⟩ := opn_ok ho
      have hz : (s.size : Int) = 14 + 19 * (nc b : Int) := hz
      have hz : s.size = 14 + 19 * nc b := by omega
      have hs : s.size ≤ 99000 := by omega
      have b10 := byt_get (stb_byt s) 10
      have b11 := byt_get (stb_byt s) 11
      have e : (G19_7 (s, b) ((0 : Int), (F44 (s, (2 : Int))), ((IntKind.i64.wrap (strAt s (10 : Int))), (IntKind.i64.wrap (strAt s (11 : Int)))), [])).2 = rawIn (nc b) ((stb s).drop 2) := by
        rw [r_cars s b _ _ hn2 hz, show (2 : Int) = ((2 : Nat) : Int) from rfl, rsets_eq s 2 (by omega) hs, show (10 : Int) = ((10 : Nat) : Int) from rfl, show (11 : Int) = ((11 : Nat) : Int) from rfl, strAt_get, strAt_get, wrap_i64_of (by omega) (by omega), wrap_i64_of (by omega) (by omega)]
        unfold rawIn
        simp only [n4_drop, getD_drop, List.drop_drop, Nat.reduceAdd]
        congr 3
        funext i
        rw [show 12 + 19 * i = 2 + (10 + 19 * i) by omega]
      simp only [e]
      have hu : ∀ c ∈ (rawIn (nc b) ((stb s).drop 2)).2.2, carU c := fun c hc => by
        obtain ⟨i, _, rfl⟩ := List.mem_map.1 hc
        exact ⟨n4_rng (byt_drop (byt_drop (stb_byt s) 2) _) 0, n4_rng (byt_drop (byt_drop (stb_byt s) 2) _) 7⟩
      have hlen : (rawIn (nc b) ((stb s).drop 2)).2.2.length ≤ 30 := by
        show ((List.range (nc b)).map _).length ≤ 30
        rw [List.length_map, List.length_range]
        omega
      rw [rIn_eq b hl _ hlen hu]
      obtain ⟨h1, h2⟩ := good_frame ho
      cases hg : goodIn b ((stb s).drop 2) with
      | true =>
        rw [h1 hg]
        simp only [bne_self_eq_false, strEq_self, Bool.not_true, Bool.or_false, cond_false, if_true]
      | false =>
        have : (((frameIn b (rawIn (nc b) ((stb s).drop 2))).2 != (0 : Int)) || (!strEq (frameIn b (rawIn (nc b) ((stb s).drop 2))).1 s)) = true := by
          rw [Bool.or_eq_true, bne_iff_ne]
          rcases h2 hg with h3 | h3
          · exact Or.inl h3
          · refine Or.inr ?_
            cases h4 : strEq (frameIn b (rawIn (nc b) ((stb s).drop 2))).1 s with
            | false => rfl
            | true => exact absurd ((strEq_iff _ _).1 h4) h3
        rw [this]
        rfl
    · rw [if_neg ho]
      have : (opn b s (14 + 19 * nCars b) 165 != 0) = true := by simpa using ho
      rw [this]
      rfl
  · simp only [ropn_eq b hl s _ _ (fun h => absurd h hB), opn_no hB]
    rfl
theorem rReadOut_eq (b : BldT) (hl : b.cars.length ≤ maxLen) (s : ByteArray) : F21 (b, s) = readOut b s := by
  unfold F21 readOut
  by_cases hB : IsB b
  · obtain ⟨hn0, hn1, hn2⟩ := nc_byte hB
    simp only [rsize_ok hB (rvalid0 hl hB)]
    have e0 : F43 (b, s, (23 + 19 * nCars b), (90 : Int)) = opn b s (23 + 19 * nCars b) 90 := ropn_eq b hl s _ _ (fun _ => by omega)
    rw [e0]
    by_cases ho : opn b s (23 + 19 * nCars b) 90 = 0
    · rw [if_pos ho, ho]
      obtain ⟨_, hz, _⟩ := opn_ok ho
      have hz : (s.size : Int) = 23 + 19 * (nc b : Int) := hz
      have hz : s.size = 23 + 19 * nc b := by omega
      have hs : s.size ≤ 99000 := by omega
      have hv := vle2_rng (byt_drop (stb_byt s) 19)
      have v19 : F45 (s, (19 : Int), (2 : Int)) = vle (((stb s).drop 19).take 2) := value_val s 19 2 (by omega) (by omega) hs
      have e : (G21_7 (s, b) ((0 : Int), (F44 (s, (2 : Int))), (F44 (s, (10 : Int))), (F46 (s, (18 : Int), (0 : Int))), (F46 (s, (18 : Int), (1 : Int))), (IntKind.i64.wrap (F45 (s, (19 : Int), (2 : Int)))), [])).2 = rawOut (nc b) ((stb s).drop 2) := by
        rw [r_carsO s b _ _ _ _ _ hn2 hz, v19, wrap_i64_of (by omega) (by omega), show (2 : Int) = ((2 : Nat) : Int) from rfl, rsets_eq s 2 (by omega) hs, show (10 : Int) = ((10 : Nat) : Int) from rfl, rsets_eq s 10 (by omega) hs, rbit_eq, rbit_eq, show (18 : Int) = ((18 : Nat) : Int) from rfl, strAt_get]
        unfold rawOut
        simp only [n4_drop, getD_drop, List.drop_drop, Nat.reduceAdd]
        congr 6
        funext i
        rw [show 21 + 19 * i = 2 + (19 + 19 * i) by omega]
      simp only [e]
      have hlen : (rawOut (nc b) ((stb s).drop 2)).2.2.2.2.2.length ≤ 30 := by
        show ((List.range (nc b)).map _).length ≤ 30
        rw [List.length_map, List.length_range]
        omega
      rw [rOut_eq b hl _ hlen]
      obtain ⟨h1, h2⟩ := good_frameO ho
      cases hg : goodOut b ((stb s).drop 2) with
      | true =>
        rw [h1 hg]
        simp only [bne_self_eq_false, strEq_self, Bool.not_true, Bool.or_false, cond_false, if_true]
      | false =>
        have : (((frameOut b (rawOut (nc b) ((stb s).drop 2))).2 != (0 : Int)) || (!strEq (frameOut b (rawOut (nc b) ((stb s).drop 2))).1 s)) = true := by
          rw [Bool.or_eq_true, bne_iff_ne]
          rcases h2 hg with h3 | h3
          · exact Or.inl h3
          · refine Or.inr ?_
            cases h4 : strEq (frameOut b (rawOut (nc b) ((stb s).drop 2))).1 s with
            | false => rfl
            | true => exact absurd ((strEq_iff _ _).1 h4) h3
        rw [this]
        rfl
    · rw [if_neg ho]
      have : (opn b s (23 + 19 * nCars b) 90 != 0) = true := by simpa using ho
      rw [this]
      rfl
  · simp only [ropn_eq b hl s _ _ (fun h => absurd h hB), opn_no hB]
    rfl
end Go.Proofs.Ytbnihoioblmgkaa.Sp
end

section
/- What is fitted to a building is valid in it (own work). -/
namespace Go.Proofs.Ytbnihoioblmgkaa.Sp
open Go Sy
set_option linter.unusedVariables false
set_option linter.unusedSimpArgs false
def and32 (a b : Int) : Int := IntKind.u32.wrap ((BitVec.ofInt IntKind.u32.bits a &&& BitVec.ofInt IntKind.u32.bits b).toNat : Int)
def andn32 (a b : Int) : Int := IntKind.u32.wrap ((BitVec.ofInt IntKind.u32.bits a &&& ~~~ BitVec.ofInt IntKind.u32.bits b).toNat : Int)
theorem w32v (v : BitVec 32) : IntKind.u32.wrap (v.toNat : Int) = (v.toNat : Int) := by rw [IntKind.wrap_u32]; have := v.isLt; omega
theorem of32 (v : BitVec 32) : BitVec.ofInt 32 (v.toNat : Int) = v := by
  apply BitVec.eq_of_toNat_eq
  simp only [BitVec.toNat_ofInt]
  have := v.isLt
  omega
theorem u32v (v : BitVec 32) : u32r (v.toNat : Int) := by have := v.isLt; exact ⟨by omega, by omega⟩
theorem and32_eq (a b : Int) : and32 a b = ((BitVec.ofInt 32 a &&& BitVec.ofInt 32 b).toNat : Int) := w32v _
theorem andn32_eq (a b : Int) : andn32 a b = ((BitVec.ofInt 32 a &&& ~~~ BitVec.ofInt 32 b).toNat : Int) := w32v _
theorem and32_u (a b : Int) : u32r (and32 a b) := by rw [and32_eq]; exact u32v _
theorem andn32_u (a b : Int) : u32r (andn32 a b) := by rw [andn32_eq]; exact u32v _
def maskT (fl : Int) : Int := IntKind.u32.wrap ((IntKind.u32.wrap ((1 : Int) * 2 ^ (min ((IntKind.u64.wrap fl)).toNat IntKind.u32.bits))) - (1 : Int))
def upT (fl : Int) : Int := Int.fdiv (maskT fl) (2 ^ (min ((1 : Int)).toNat IntKind.u32.bits))
def downT (fl : Int) : Int := andn32 (maskT fl) 1
theorem mask_all : (List.range 31).all (fun n => hallT ((n : Int) + 2) == (upT ((n : Int) + 2), downT ((n : Int) + 2)) && (maskT ((n : Int) + 2) == 2 ^ (n + 2) - 1)) = true := by kernel_rfl
theorem mask_one {fl : Int} (h : 2 ≤ fl ∧ fl ≤ 32) : hallT fl = (upT fl, downT fl) ∧ maskT fl = 2 ^ fl.toNat - 1 := by
  have := List.all_eq_true.1 mask_all (fl - 2).toNat (by simp; omega)
  simp only [Bool.and_eq_true, beq_iff_eq] at this
  rwa [show (((fl - 2).toNat : Int) + 2) = fl by omega, show (fl - 2).toNat + 2 = fl.toNat by omega] at this
theorem inHall_eq {b : BldT} (hB : IsB b) (hl : b.cars.length ≤ maxLen) (c : Int × Int) : inHall b c = ((andn32 c.1 (upT b.1) == 0) && (andn32 c.2 (downT b.1) == 0)) := by
  unfold inHall F57
  rw [rhall_eq b hl, if_pos hB, (mask_one hB.fl).1]
  rfl
theorem bv_zero (v h : BitVec 32) : (v &&& h) &&& ~~~h = 0#32 := by
  rw [BitVec.and_assoc, BitVec.and_not_self]
  exact BitVec.and_zero
theorem bv_zero2 (a m o : BitVec 32) : ((a &&& m) &&& ~~~o) &&& ~~~(m &&& ~~~o) = 0#32 := by
  rw [BitVec.and_assoc a m (~~~o)]
  exact bv_zero _ _
theorem andn_and (a h : Int) : andn32 (and32 a h) h = 0 := by
  rw [andn32_eq, and32_eq, of32, bv_zero]
  rfl
theorem andn_andn (a m : Int) : andn32 (andn32 (and32 a m) 1) (andn32 m 1) = 0 := by
  rw [andn32_eq, andn32_eq, andn32_eq, and32_eq, of32, of32, of32, bv_zero2]
  rfl
theorem and32_mask {fl : Int} (h : 2 ≤ fl ∧ fl ≤ 32) (a : Int) : and32 a (maskT fl) / 2 ^ fl.toNat = 0 := by
  rw [and32_eq, (mask_one h).2]
  have e : BitVec.ofInt 32 ((2 : Int) ^ fl.toNat - 1) = BitVec.ofNat 32 (2 ^ fl.toNat - 1) := by
    have hp : 0 < 2 ^ fl.toNat := Nat.pow_pos (by omega)
    have : (2 : Int) ^ fl.toNat - 1 = ((2 ^ fl.toNat - 1 : Nat) : Int) := by
      rw [show (2 : Int) = ((2 : Nat) : Int) from rfl, ← Int.natCast_pow]
      omega
    rw [this]
    apply BitVec.eq_of_toNat_eq
    simp only [BitVec.toNat_ofInt, BitVec.toNat_ofNat]
    omega
  rw [e]
  have hp : 2 ^ fl.toNat ≤ 2 ^ 32 := Nat.pow_le_pow_right (by omega) (by omega)
  have h0 : 0 < 2 ^ fl.toNat := Nat.pow_pos (by omega)
  have : (BitVec.ofInt 32 a &&& BitVec.ofNat 32 (2 ^ fl.toNat - 1)).toNat < 2 ^ fl.toNat := by
    rw [BitVec.toNat_and, BitVec.toNat_ofNat, Nat.mod_eq_of_lt (by omega), Nat.and_two_pow_sub_one_eq_mod]
    exact Nat.mod_lt _ h0
  generalize (BitVec.ofInt 32 a &&& BitVec.ofNat 32 (2 ^ fl.toNat - 1)).toNat = m at this
  have e2 : (2 : Int) ^ fl.toNat = ((2 ^ fl.toNat : Nat) : Int) := by rw [Int.natCast_pow]; rfl
  rw [e2]
  exact Int.ediv_eq_zero_of_lt (by omega) (by omega)
theorem set_end {K α ρ : Type} [Inhabited α] {st : K → (List α × Int) → BOut K (List α × Int) ρ} {k : K} (f : α → α) (l : List α) (hl : l.length ≤ 1000)
    (hn : ∀ (i : Nat) (m : List α), m.length = l.length → i < l.length → st k (m, (i : Int)) = .next k (m.set i (f (nthT m i)), ((i + 1 : Nat) : Int))) (hb : ∀ m : List α, m.length = l.length → st k (m, (l.length : Int)) = .brk k (m, (l.length : Int))) {fuel : Nat} (hf : l.length < fuel) :
    (endOf st k fuel (l, (0 : Int))).1 = l.map f := by
  have hs : ∀ i, i ≤ l.length → ((l.take i).map f ++ l.drop i).length = l.length := fun i hi => by simp; omega
  have := (end_row_brk (step := st) (k := k) (fun i => ((l.take i).map f ++ l.drop i, (i : Int))) l.length (fun i hi => ⟨k, by
    try simp only
    rw [hn i _ (hs i (by omega)) hi]
    have e1 : nthT ((l.take i).map f ++ l.drop i) (i : Int) = l[i] := by
      rw [nthT_nat _ i (by rw [hs i (by omega)]; exact hi), List.getElem_append_right (by simp; omega)]
      simp [Nat.min_eq_left (Nat.le_of_lt hi)]
    have e3 : i - ((l.take i).map f).length = 0 := by simp; omega
    rw [e1, List.set_append_right _ _ (by simp; omega), e3, List.take_add_one, List.getElem?_eq_getElem hi, List.drop_eq_getElem_cons hi, List.set_cons_zero]
    simp only [Option.toList, List.map_append, List.map_cons, List.map_nil, List.append_assoc, List.cons_append, List.nil_append]⟩) (k' := k) (y := (l.map f, (l.length : Int))) (by
    try simp only
    rw [List.take_of_length_le (Nat.le_refl _), List.drop_eq_nil_of_le (Nat.le_refl _), List.append_nil]
    exact hb _ (by simp)) hf).1
  have h2 := congrArg Prod.fst this
  simpa using h2
def fitCar (b : BldT) (c : CarIn) : CarIn :=
  ((and32 c.1.1 (maskT b.1), c.1.2), (IntKind.i64.wrap (Int.tmod (IntKind.u64.wrap c.2.1.1) (IntKind.u64.wrap b.1)), c.2.1.2.1, IntKind.i64.wrap (Int.tmod (IntKind.u64.wrap c.2.1.2.2.1) 3), c.2.1.2.2.2), and32 c.2.2.1 (maskT b.1), c.2.2.2)
theorem nth_set {α : Type} [Inhabited α] {l : List α} {i : Nat} (h : i < l.length) (a : α) : nthT (l.set i a) (i : Int) = a := by
  rw [nthT_nat _ i (by simpa using h)]
  simp
theorem fit_step (b : BldT) (m : List CarIn) (i : Nat) (h : i < m.length) : K10_9_3 (maskT b.1, b) (m, (i : Int)) = m.set i (fitCar b (nthT m i)) := by
  unfold K10_9_3 K10_9_2
  have e1 : K10_9_1 (maskT b.1, b) (m, (i : Int)) = m.set i ((and32 (nthT m (i : Int)).1.1 (maskT b.1), (nthT m (i : Int)).1.2), (nthT m (i : Int)).2.1, and32 (nthT m (i : Int)).2.2.1 (maskT b.1), (nthT m (i : Int)).2.2.2) := by
    unfold K10_9_1 setE
    simp only [Int.toNat_natCast, List.set_set, nth_set h]
    rfl
  rw [e1]
  unfold setE
  simp only [Int.toNat_natCast, List.set_set, nth_set h]
  rfl
theorem copyL_len {α : Type} (l m : List α) : (copyL l m).length = l.length := by unfold copyL; simp; omega
def fitCars (b : BldT) (l : List CarIn) : List CarIn := (copyL (zrow ty71 (nc b : Int)) l).map (fitCar b)
theorem fitCars_len (b : BldT) (l : List CarIn) : (fitCars b l).length = nc b := by unfold fitCars; rw [List.length_map, copyL_len]; simp [zrow]
theorem fit_loop (b : BldT) (hn : nc b ≤ 8) (l : List CarIn) : (G10_9 (maskT b.1, b) ((copyL (zrow ty71 (nc b : Int)) l), (0 : Int))).1 = fitCars b l := by
  unfold G10_9 fitCars
  have hl : (copyL (zrow ty71 (nc b : Int)) l).length = nc b := by rw [copyL_len]; simp [zrow]
  refine set_end (fitCar b) _ (by omega) (fun i m hm hi => ?_) (fun m hm => ?_) (by unfold mu10_9; simp only; omega)
  · unfold st10_9
    have h1 : decide ((i : Int) < (m.length : Int)) = true := by simp; omega
    simp only [h1, cond_true]
    rw [fit_step b m i (by omega), show (i : Int) + 1 = ((i + 1 : Nat) : Int) by omega, iw (by omega)]
  · unfold st10_9
    simp [hm]
def kindT (x : InT) : Int := IntKind.i64.wrap (Int.tmod (IntKind.u64.wrap x.2.1.1) (9 : Int))
def carT (b : BldT) (x : InT) : Int := if kindT x = 0 then 0 else IntKind.i64.wrap (Int.tmod (IntKind.u64.wrap x.2.1.2) (IntKind.u64.wrap (nc b : Int)))
def fitIn (b : BldT) (x : InT) : InT := ((and32 (and32 x.1.1 (maskT b.1)) (upT b.1), andn32 (and32 x.1.2 (maskT b.1)) 1), (kindT x, carT b x), fitCars b x.2.2)
theorem fitted_eq (b : BldT) (hn : nc b ≤ 8) (x : InT) : F10 (b, x) = fitIn b x := by
  unfold fitIn
  rw [← fit_loop b hn]
  unfold F10 carT
  by_cases h : kindT x = 0
  · rw [if_pos h]
    have h2 : (kindT x == 0) = true := by simpa using h
    unfold kindT at h2 ⊢
    rw [h2]
    rfl
  · rw [if_neg h]
    have h2 : (kindT x == 0) = false := by simpa using h
    unfold kindT at h2 ⊢
    rw [h2]
    rfl
theorem tmod_rng {n m : Int} (hn : 0 ≤ n) (h : 1 ≤ m ∧ m ≤ 1000) : 0 ≤ IntKind.i64.wrap (Int.tmod n m) ∧ IntKind.i64.wrap (Int.tmod n m) ≤ m - 1 := by
  rw [Int.tmod_eq_emod_of_nonneg hn]
  have h1 := Int.emod_nonneg n (show m ≠ 0 by omega)
  have h2 := Int.emod_lt_of_pos n (show 0 < m by omega)
  rw [wrap_i64_of (by omega) (by omega)]
  omega
theorem u64_nn (n : Int) : 0 ≤ IntKind.u64.wrap n := by rw [IntKind.wrap_u64]; omega
theorem fitCar_ok {b : BldT} (hB : IsB b) (c : CarIn) : carInOk b (fitCar b c) = true ∧ carU (fitCar b c) := by
  have hf := hB.fl
  unfold carInOk fitCar flo inR carU
  simp only
  rw [and32_mask hf, and32_mask hf]
  have e : IntKind.u64.wrap b.1 = b.1 := by rw [IntKind.wrap_u64]; omega
  rw [e]
  have h1 := tmod_rng (u64_nn c.2.1.1) (m := b.1) (by omega)
  have h2 := tmod_rng (u64_nn c.2.1.2.2.1) (m := 3) (by omega)
  refine ⟨?_, and32_u _ _, and32_u _ _⟩
  simp only [Bool.and_eq_true, decide_eq_true_eq, beq_self_eq_true, true_and]
  omega
theorem fit_ok {b : BldT} (hB : IsB b) (hl : b.cars.length ≤ maxLen) (x : InT) : inOk b (fitIn b x) = true ∧ ∀ c ∈ (fitIn b x).2.2, carU c := by
  have hc := hB.cn
  have hc : 1 ≤ nc b ∧ nc b ≤ 8 := hc
  have hk := tmod_rng (u64_nn x.2.1.1) (m := 9) (by omega)
  constructor
  · unfold inOk inR
    simp only [Bool.and_eq_true, decide_eq_true_eq, List.all_eq_true, beq_iff_eq, Bool.not_eq_true', Bool.and_eq_false_imp, bne_eq_false_iff_eq]
    refine ⟨⟨⟨⟨⟨?_, ?_⟩, ?_⟩, ?_⟩, ?_⟩, ?_⟩
    · rw [inHall_eq hB hl]
      show ((andn32 (and32 (and32 x.1.1 (maskT b.1)) (upT b.1)) (upT b.1) == 0) && (andn32 (andn32 (and32 x.1.2 (maskT b.1)) 1) (downT b.1) == 0)) = true
      rw [andn_and]
      unfold downT
      rw [andn_andn]
      rfl
    · show 0 ≤ kindT x ∧ kindT x ≤ 8
      exact hk
    · show 0 ≤ carT b x ∧ carT b x ≤ (nc b : Int) - 1
      unfold carT
      by_cases h : kindT x = 0
      · rw [if_pos h]
        omega
      · rw [if_neg h]
        have e : IntKind.u64.wrap (nc b : Int) = (nc b : Int) := by rw [IntKind.wrap_u64]; omega
        rw [e]
        exact tmod_rng (u64_nn _) (by omega)
    · intro h
      have h : kindT x = 0 := h
      show carT b x = 0
      unfold carT
      rw [if_pos h]
    · show ((fitCars b x.2.2).length : Int) = (nc b : Int)
      rw [fitCars_len]
    · intro c hc
      obtain ⟨d, _, rfl⟩ := List.mem_map.1 hc
      exact (fitCar_ok hB d).1
  · intro c hc
    obtain ⟨d, _, rfl⟩ := List.mem_map.1 hc
    exact (fitCar_ok hB d).2
def fitCarO (b : BldT) (c : CarOut) : CarOut :=
  (((and32 c.1.1.1 (upT b.1), and32 c.1.1.2 (downT b.1)), c.1.2), (and32 c.2.1.1 (upT b.1), and32 c.2.1.2 (downT b.1)), c.2.2.1, IntKind.i64.wrap (Int.tmod (IntKind.u64.wrap c.2.2.2.1) 6), IntKind.i64.wrap (Int.tmod (IntKind.u64.wrap c.2.2.2.2.1) 5), c.2.2.2.2.2)
theorem fitO_step (b : BldT) (m : List CarOut) (i : Nat) (h : i < m.length) : K18_8_4 (upT b.1, downT b.1) (m, (i : Int)) = m.set i (fitCarO b (nthT m i)) := by
  unfold K18_8_4 K18_8_3
  have e1 : K18_8_1 (upT b.1, downT b.1) (m, (i : Int)) = m.set i (((and32 (nthT m (i : Int)).1.1.1 (upT b.1), and32 (nthT m (i : Int)).1.1.2 (downT b.1)), (nthT m (i : Int)).1.2), (nthT m (i : Int)).2) := rfl
  have e2 : K18_8_2 (upT b.1, downT b.1) (m, (i : Int)) = m.set i (((and32 (nthT m (i : Int)).1.1.1 (upT b.1), and32 (nthT m (i : Int)).1.1.2 (downT b.1)), (nthT m (i : Int)).1.2), (and32 (nthT m (i : Int)).2.1.1 (upT b.1), and32 (nthT m (i : Int)).2.1.2 (downT b.1)), (nthT m (i : Int)).2.2) := by
    unfold K18_8_2
    rw [e1]
    unfold setE
    simp only [Int.toNat_natCast, List.set_set, nth_set h]
    rfl
  rw [e2]
  unfold setE
  simp only [Int.toNat_natCast, List.set_set, nth_set h]
  rfl
def fitCarsO (b : BldT) (l : List CarOut) : List CarOut := (copyL (zrow ty95 (nc b : Int)) l).map (fitCarO b)
theorem fitCarsO_len (b : BldT) (l : List CarOut) : (fitCarsO b l).length = nc b := by unfold fitCarsO; rw [List.length_map, copyL_len]; simp [zrow]
theorem fitO_loop (b : BldT) (hn : nc b ≤ 8) (l : List CarOut) : (G18_8 (upT b.1, downT b.1) ((copyL (zrow ty95 (nc b : Int)) l), (0 : Int))).1 = fitCarsO b l := by
  unfold G18_8 fitCarsO
  have hl : (copyL (zrow ty95 (nc b : Int)) l).length = nc b := by rw [copyL_len]; simp [zrow]
  refine set_end (fitCarO b) _ (by omega) (fun i m hm hi => ?_) (fun m hm => ?_) (by unfold mu18_8; simp only; omega)
  · unfold st18_8
    have h1 : decide ((i : Int) < (m.length : Int)) = true := by simp; omega
    simp only [h1, cond_true]
    rw [fitO_step b m i (by omega), show (i : Int) + 1 = ((i + 1 : Nat) : Int) by omega, iw (by omega)]
  · unfold st18_8
    simp [hm]
def fitOut (b : BldT) (x : OutT) : OutT := ((and32 x.1.1 (upT b.1), and32 x.1.2 (downT b.1)), (and32 x.2.1.1 (upT b.1), and32 x.2.1.2 (downT b.1)), x.2.2.1, x.2.2.2.1, IntKind.i64.wrap (Int.tmod (IntKind.u64.wrap x.2.2.2.2.1) 65536), fitCarsO b x.2.2.2.2.2)
theorem outputs_eq (b : BldT) (hn : nc b ≤ 8) (x : OutT) : F18 (b, x) = fitOut b x := by
  unfold fitOut
  rw [← fitO_loop b hn]
  rfl
theorem fitCarO_ok {b : BldT} (hB : IsB b) (hl : b.cars.length ≤ maxLen) (c : CarOut) : carOutOk b (fitCarO b c) = true := by
  unfold carOutOk fitCarO inR
  simp only [inHall_eq hB hl, andn_and]
  have h1 := tmod_rng (u64_nn c.2.2.2.1) (m := 6) (by omega)
  have h2 := tmod_rng (u64_nn c.2.2.2.2.1) (m := 5) (by omega)
  simp only [Bool.and_eq_true, decide_eq_true_eq, beq_self_eq_true, true_and]
  omega
theorem fitO_ok {b : BldT} (hB : IsB b) (hl : b.cars.length ≤ maxLen) (x : OutT) : outOk b (fitOut b x) = true := by
  unfold outOk inR
  have h1 : 0 ≤ IntKind.i64.wrap (Int.tmod (IntKind.u64.wrap x.2.2.2.2.1) 65536) ∧ IntKind.i64.wrap (Int.tmod (IntKind.u64.wrap x.2.2.2.2.1) 65536) ≤ 65535 := by
    have := u64_nn x.2.2.2.2.1
    rw [Int.tmod_eq_emod_of_nonneg this, wrap_i64_of (by omega) (by omega)]
    omega
  simp only [Bool.and_eq_true, decide_eq_true_eq, List.all_eq_true, beq_iff_eq]
  refine ⟨⟨⟨⟨?_, ?_⟩, h1⟩, ?_⟩, ?_⟩
  · rw [inHall_eq hB hl]
    simp only [fitOut, andn_and, beq_self_eq_true, Bool.and_self]
  · rw [inHall_eq hB hl]
    simp only [fitOut, andn_and, beq_self_eq_true, Bool.and_self]
  · show ((fitCarsO b x.2.2.2.2.2).length : Int) = (nc b : Int)
    rw [fitCarsO_len]
  · intro c hc
    obtain ⟨d, _, rfl⟩ := List.mem_map.1 hc
    exact fitCarO_ok hB hl d
end Go.Proofs.Ytbnihoioblmgkaa.Sp
end

section
/- Frames are read back (own work). -/
namespace Go.Proofs.Ytbnihoioblmgkaa.Sp
open Go Sy
set_option linter.unusedVariables false
set_option linter.unusedSimpArgs false
theorem vle4 {n : Int} (h : u32r n) : vle (le (IntKind.u64.wrap n) 4) = n := by
  unfold u32r at h
  rw [IntKind.wrap_u64, show n % 18446744073709551616 = n by omega]
  exact vle_le 4 n h.1 (by omega)
theorem vle2 {n : Int} (h : 0 ≤ n ∧ n ≤ 65535) : vle (le (IntKind.u64.wrap n) 2) = n := by
  rw [IntKind.wrap_u64, show n % 18446744073709551616 = n by omega]
  exact vle_le 2 n h.1 (by omega)
theorem vle8 {n : Nat} (h : n < 2 ^ 64) : (vle (le (n : Int) 8)).toNat = n := by
  rw [vle_le 8 (n : Int) (by omega) (by omega)]
  omega
theorem b1 {n : Int} (h : 0 ≤ n ∧ n ≤ 255) : IntKind.u8.wrap (IntKind.u64.wrap n) = n := by rw [IntKind.wrap_u64, IntKind.wrap_u8]; omega
theorem b1' {n : Int} (h : 0 ≤ n ∧ n ≤ 255) : IntKind.u8.wrap n = n := by rw [IntKind.wrap_u8]; omega
def carR (c : CarIn) : Prop := carU c ∧ (0 ≤ c.2.1.1 ∧ c.2.1.1 ≤ 255) ∧ (0 ≤ c.2.1.2.2.1 ∧ c.2.1.2.2.1 ≤ 255) ∧ c.2.2.2 < 2 ^ 64
theorem raw_carE {c : CarIn} (h : carR c) (r : List Int) : rawCar (carE c ++ r) = c := by
  obtain ⟨⟨fl, u, d, o, cl⟩, ⟨f, lv, dr, bk⟩, ca, ld⟩ := c
  obtain ⟨⟨h1, h2⟩, h3, h4, h5⟩ := h
  simp only at h1 h2 h3 h4 h5
  have e : rawCar (carE ((fl, u, d, o, cl), (f, lv, dr, bk), ca, ld) ++ r) = ((vle (le (IntKind.u64.wrap fl) 4), bitv (IntKind.u8.wrap (flg [u, d, o, cl, lv, bk])) 0, bitv (IntKind.u8.wrap (flg [u, d, o, cl, lv, bk])) 1, bitv (IntKind.u8.wrap (flg [u, d, o, cl, lv, bk])) 2, bitv (IntKind.u8.wrap (flg [u, d, o, cl, lv, bk])) 3), (IntKind.u8.wrap (IntKind.u64.wrap f), bitv (IntKind.u8.wrap (flg [u, d, o, cl, lv, bk])) 4, IntKind.u8.wrap (IntKind.u64.wrap dr), bitv (IntKind.u8.wrap (flg [u, d, o, cl, lv, bk])) 5), vle (le (IntKind.u64.wrap ca) 4), (vle (le ((ld : Nat) : Int) 8)).toNat) := rfl
  obtain ⟨g0, g1, g2, g3, g4, g5, g6⟩ := flb6 u d o cl lv bk
  rw [e, vle4 h1, vle4 h2, vle8 h5, b1 h3, b1 h4, b1' (by omega), g1, g2, g3, g4, g5, g6]
def carRO (c : CarOut) : Prop := (u32r c.1.1.1 ∧ u32r c.1.1.2 ∧ u32r c.2.1.1 ∧ u32r c.2.1.2) ∧ (0 ≤ c.2.2.2.1 ∧ c.2.2.2.1 ≤ 255) ∧ (0 ≤ c.2.2.2.2.1 ∧ c.2.2.2.2.1 ≤ 255)
theorem raw_carO {c : CarOut} (h : carRO c) (r : List Int) : rawCarO (carO c ++ r) = c := by
  obtain ⟨⟨⟨a1, a2⟩, co⟩, ⟨l1, l2⟩, g, cm, ph, fg⟩ := c
  obtain ⟨⟨h1, h2, h3, h4⟩, h5, h6⟩ := h
  simp only at h1 h2 h3 h4 h5 h6
  have e : rawCarO (carO (((a1, a2), co), (l1, l2), g, cm, ph, fg) ++ r) = (((vle (le (IntKind.u64.wrap a1) 4), vle (le (IntKind.u64.wrap a2) 4)), bitv (IntKind.u8.wrap (flg [co, g, fg])) 0), (vle (le (IntKind.u64.wrap l1) 4), vle (le (IntKind.u64.wrap l2) 4)), bitv (IntKind.u8.wrap (flg [co, g, fg])) 1, IntKind.u8.wrap (IntKind.u64.wrap cm), IntKind.u8.wrap (IntKind.u64.wrap ph), bitv (IntKind.u8.wrap (flg [co, g, fg])) 2) := rfl
  obtain ⟨g0, g1, g2, g3⟩ := flb3 co g fg
  rw [e, vle4 h1, vle4 h2, vle4 h3, vle4 h4, b1 h5, b1 h6, b1' (by omega), g1, g2, g3]
theorem flat_at {α : Type} {f : α → List Int} {k : Nat} (hf : ∀ c, (f c).length = k) : ∀ (xs : List α) (i : Nat) (h : i < xs.length) (t : List Int), ∃ r, (xs.flatMap f ++ t).drop (k * i) = f xs[i] ++ r
  | x :: xs, 0, h, t => ⟨xs.flatMap f ++ t, by simp⟩
  | x :: xs, i + 1, h, t => by
    obtain ⟨r, hr⟩ := flat_at hf xs i (by simpa using h) t
    refine ⟨r, ?_⟩
    rw [List.flatMap_cons, List.append_assoc, show k * (i + 1) = (f x).length + k * i by rw [hf, Nat.mul_add]; omega, List.drop_length_add_append, hr]
    rfl
theorem raw_row (n : Int) (x : InT) (hp : u32r x.1.1 ∧ u32r x.1.2) (hk : 0 ≤ x.2.1.1 ∧ x.2.1.1 ≤ 255) (hc : 0 ≤ x.2.1.2 ∧ x.2.1.2 ≤ 255) (hx : ∀ c ∈ x.2.2, carR c) (t : List Int) : rawIn x.2.2.length ((inRow n x ++ t).drop 2) = x := by
  obtain ⟨⟨u, d⟩, ⟨k, c⟩, cars⟩ := x
  simp only at hp hk hc hx
  have e : (inRow n ((u, d), (k, c), cars) ++ t).drop 2 = (ce (u, d) ++ le (IntKind.u64.wrap k) 1 ++ le (IntKind.u64.wrap c) 1) ++ (cars.flatMap carE ++ t) := by
    unfold inRow
    simp only [List.append_assoc, List.cons_append, List.nil_append]
    rfl
  rw [e]
  unfold rawIn
  have e1 : n4 ((ce (u, d) ++ le (IntKind.u64.wrap k) 1 ++ le (IntKind.u64.wrap c) 1) ++ (cars.flatMap carE ++ t)) 0 = vle (le (IntKind.u64.wrap u) 4) := rfl
  have e2 : n4 ((ce (u, d) ++ le (IntKind.u64.wrap k) 1 ++ le (IntKind.u64.wrap c) 1) ++ (cars.flatMap carE ++ t)) 4 = vle (le (IntKind.u64.wrap d) 4) := rfl
  have e3 : ((ce (u, d) ++ le (IntKind.u64.wrap k) 1 ++ le (IntKind.u64.wrap c) 1) ++ (cars.flatMap carE ++ t)).getD 8 0 = IntKind.u8.wrap (IntKind.u64.wrap k) := rfl
  have e4 : ((ce (u, d) ++ le (IntKind.u64.wrap k) 1 ++ le (IntKind.u64.wrap c) 1) ++ (cars.flatMap carE ++ t)).getD 9 0 = IntKind.u8.wrap (IntKind.u64.wrap c) := rfl
  rw [e1, e2, e3, e4, vle4 hp.1, vle4 hp.2, b1 hk, b1 hc]
  congr 2
  apply List.ext_getElem
  · simp
  · intro i h1 h2
    rw [List.getElem_map, List.getElem_range]
    have h2 : i < cars.length := h2
    obtain ⟨r, hr⟩ := flat_at carE_len cars i h2 t
    have e5 : ((ce (u, d) ++ le (IntKind.u64.wrap k) 1 ++ le (IntKind.u64.wrap c) 1) ++ (cars.flatMap carE ++ t)).drop (10 + 19 * i) = carE cars[i] ++ r := by
      rw [show 10 + 19 * i = (ce (u, d) ++ le (IntKind.u64.wrap k) 1 ++ le (IntKind.u64.wrap c) 1).length + 19 * i by simp [ce_len, le_len], List.drop_length_add_append, hr]
    rw [e5, raw_carE (hx _ (List.getElem_mem h2))]
theorem raw_rowO (n : Int) (x : OutT) (hp : u32r x.1.1 ∧ u32r x.1.2) (hq : u32r x.2.1.1 ∧ u32r x.2.1.2) (hs : 0 ≤ x.2.2.2.2.1 ∧ x.2.2.2.2.1 ≤ 65535) (hx : ∀ c ∈ x.2.2.2.2.2, carRO c) (t : List Int) : rawOut x.2.2.2.2.2.length ((outRow n x ++ t).drop 2) = x := by
  obtain ⟨⟨u, d⟩, ⟨v, w⟩, bd, fu, st, cars⟩ := x
  simp only at hp hq hs hx
  have e : (outRow n ((u, d), (v, w), bd, fu, st, cars) ++ t).drop 2 = (ce (u, d) ++ ce (v, w) ++ le (flg [bd, fu]) 1 ++ le (IntKind.u64.wrap st) 2) ++ (cars.flatMap carO ++ t) := by
    unfold outRow
    simp only [List.append_assoc, List.cons_append, List.nil_append]
    rfl
  rw [e]
  unfold rawOut
  have e1 : n4 ((ce (u, d) ++ ce (v, w) ++ le (flg [bd, fu]) 1 ++ le (IntKind.u64.wrap st) 2) ++ (cars.flatMap carO ++ t)) 0 = vle (le (IntKind.u64.wrap u) 4) := rfl
  have e2 : n4 ((ce (u, d) ++ ce (v, w) ++ le (flg [bd, fu]) 1 ++ le (IntKind.u64.wrap st) 2) ++ (cars.flatMap carO ++ t)) 4 = vle (le (IntKind.u64.wrap d) 4) := rfl
  have e3 : n4 ((ce (u, d) ++ ce (v, w) ++ le (flg [bd, fu]) 1 ++ le (IntKind.u64.wrap st) 2) ++ (cars.flatMap carO ++ t)) 8 = vle (le (IntKind.u64.wrap v) 4) := rfl
  have e4 : n4 ((ce (u, d) ++ ce (v, w) ++ le (flg [bd, fu]) 1 ++ le (IntKind.u64.wrap st) 2) ++ (cars.flatMap carO ++ t)) 12 = vle (le (IntKind.u64.wrap w) 4) := rfl
  have e6 : ((ce (u, d) ++ ce (v, w) ++ le (flg [bd, fu]) 1 ++ le (IntKind.u64.wrap st) 2) ++ (cars.flatMap carO ++ t)).getD 16 0 = IntKind.u8.wrap (flg [bd, fu]) := rfl
  have e7 : vle ((((ce (u, d) ++ ce (v, w) ++ le (flg [bd, fu]) 1 ++ le (IntKind.u64.wrap st) 2) ++ (cars.flatMap carO ++ t)).drop 17).take 2) = vle (le (IntKind.u64.wrap st) 2) := rfl
  obtain ⟨g0, g1, g2⟩ := flb2 bd fu
  rw [e1, e2, e3, e4, e6, e7, vle4 hp.1, vle4 hp.2, vle4 hq.1, vle4 hq.2, vle2 hs, b1' (by omega), g1, g2]
  congr 5
  apply List.ext_getElem
  · simp
  · intro i h1 h2
    rw [List.getElem_map, List.getElem_range]
    have h2 : i < cars.length := h2
    obtain ⟨r, hr⟩ := flat_at carO_len cars i h2 t
    have e5 : ((ce (u, d) ++ ce (v, w) ++ le (flg [bd, fu]) 1 ++ le (IntKind.u64.wrap st) 2) ++ (cars.flatMap carO ++ t)).drop (19 + 19 * i) = carO cars[i] ++ r := by
      rw [show 19 + 19 * i = (ce (u, d) ++ ce (v, w) ++ le (flg [bd, fu]) 1 ++ le (IntKind.u64.wrap st) 2).length + 19 * i by simp [ce_len, le_len], List.drop_length_add_append, hr]
    rw [e5, raw_carO (hx _ (List.getElem_mem h2))]
theorem seal_at (row : List Int) (hb : Byt row) (i : Nat) (h : i < row.length) : strAt (sealT (bts row)) (i : Int) = row.getD i 0 := by
  rw [strAt_get, stb_seal, stb_bts _ hb, List.getD_eq_getElem?_getD, List.getD_eq_getElem?_getD, List.getElem?_append_left h]
theorem inOk_len {b : BldT} {x : InT} (h : inOk b x = true) : x.2.2.length = nc b := by
  unfold inOk at h
  simp only [Bool.and_eq_true, beq_iff_eq] at h
  have := h.1.2
  have : (x.2.2.length : Int) = (nc b : Int) := this
  omega
theorem outOk_len {b : BldT} {x : OutT} (h : outOk b x = true) : x.2.2.2.2.2.length = nc b := by
  unfold outOk at h
  simp only [Bool.and_eq_true, beq_iff_eq] at h
  have := h.1.2
  have : (x.2.2.2.2.2.length : Int) = (nc b : Int) := this
  omega
theorem row_opn {b : BldT} (hB : IsB b) {row : List Int} (hb : Byt row) (hd z : Int) (h2 : 2 ≤ row.length) (h0 : row.getD 0 0 = hd) (h1 : row.getD 1 0 = nCars b) (hz : (row.length : Int) + 2 = z) : opn b (sealT (bts row)) z hd = 0 := by
  unfold opn
  rw [if_neg (by simpa using hB), if_neg, if_neg, if_neg]
  · rw [sum_seal]; simp
  · rw [show (0 : Int) = ((0 : Nat) : Int) from rfl, show (1 : Int) = ((1 : Nat) : Int) from rfl, seal_at row hb 0 (by omega), seal_at row hb 1 (by omega), h0, h1]
    simp
  · rw [sealT_size, bts_size]
    simp
    omega
theorem in_opn {b : BldT} (hB : IsB b) {x : InT} (hl : x.2.2.length = nc b) : opn b (sealT (bts (inRow (nCars b) x))) (14 + 19 * nCars b) 165 = 0 := by
  obtain ⟨hn0, hn1, hn2⟩ := nc_byte hB
  refine row_opn hB (inRow_byt ⟨hn0, hn1⟩ x) _ _ (by rw [inRow_len]; omega) rfl rfl ?_
  rw [inRow_len, hl]
  show (((12 + 19 * nc b : Nat) : Int)) + 2 = 14 + 19 * (nc b : Int)
  omega
theorem out_opn {b : BldT} (hB : IsB b) {x : OutT} (hl : x.2.2.2.2.2.length = nc b) : opn b (sealT (bts (outRow (nCars b) x))) (23 + 19 * nCars b) 90 = 0 := by
  obtain ⟨hn0, hn1, hn2⟩ := nc_byte hB
  refine row_opn hB (outRow_byt ⟨hn0, hn1⟩ x) _ _ (by rw [outRow_len]; omega) rfl rfl ?_
  rw [outRow_len, hl]
  show (((21 + 19 * nc b : Nat) : Int)) + 2 = 23 + 19 * (nc b : Int)
  omega
theorem read_back {b : BldT} (hB : IsB b) {x : InT} (hx : inOk b x = true) (hp : u32r x.1.1 ∧ u32r x.1.2) (hc : ∀ c ∈ x.2.2, carR c) : readIn b (sealT (bts (inRow (nCars b) x))) = (x, 0) := by
  obtain ⟨hn0, hn1, hn2⟩ := nc_byte hB
  have hl := inOk_len hx
  have ho := in_opn hB hl
  have hk : (0 ≤ x.2.1.1 ∧ x.2.1.1 ≤ 255) ∧ (0 ≤ x.2.1.2 ∧ x.2.1.2 ≤ 255) := by
    unfold inOk inR at hx
    simp only [Bool.and_eq_true, decide_eq_true_eq] at hx
    obtain ⟨⟨⟨⟨⟨_, h1⟩, h2⟩, _⟩, _⟩, _⟩ := hx
    have h2 : 0 ≤ x.2.1.2 ∧ x.2.1.2 ≤ (nc b : Int) - 1 := h2
    omega
  have e : rawIn (nc b) ((stb (sealT (bts (inRow (nCars b) x)))).drop 2) = x := by
    rw [stb_seal, stb_bts _ (inRow_byt ⟨hn0, hn1⟩ x), ← hl]
    exact raw_row _ x hp hk.1 hk.2 hc _
  have hg : goodIn b ((stb (sealT (bts (inRow (nCars b) x)))).drop 2) = true := by
    cases hg : goodIn b ((stb (sealT (bts (inRow (nCars b) x)))).drop 2) with
    | true => rfl
    | false =>
      exfalso
      have := (good_frame ho).2 hg
      rw [e] at this
      have hf : frameIn b x = (sealT (bts (inRow (nCars b) x)), 0) := by unfold frameIn; simp only [hB, hx, decide_true, Bool.and_self, cond_true]
      rw [hf] at this
      simp at this
  unfold readIn
  rw [if_pos ho, if_pos hg, e]
theorem read_backO {b : BldT} (hB : IsB b) {x : OutT} (hx : outOk b x = true) (hp : u32r x.1.1 ∧ u32r x.1.2) (hq : u32r x.2.1.1 ∧ u32r x.2.1.2) (hc : ∀ c ∈ x.2.2.2.2.2, carRO c) : readOut b (sealT (bts (outRow (nCars b) x))) = (x, 0) := by
  obtain ⟨hn0, hn1, hn2⟩ := nc_byte hB
  have hl := outOk_len hx
  have ho := out_opn hB hl
  have hk : 0 ≤ x.2.2.2.2.1 ∧ x.2.2.2.2.1 ≤ 65535 := by
    unfold outOk inR at hx
    simp only [Bool.and_eq_true, decide_eq_true_eq] at hx
    exact hx.1.1.2
  have e : rawOut (nc b) ((stb (sealT (bts (outRow (nCars b) x)))).drop 2) = x := by
    rw [stb_seal, stb_bts _ (outRow_byt ⟨hn0, hn1⟩ x), ← hl]
    exact raw_rowO _ x hp hq hk hc _
  have hg : goodOut b ((stb (sealT (bts (outRow (nCars b) x)))).drop 2) = true := by
    cases hg : goodOut b ((stb (sealT (bts (outRow (nCars b) x)))).drop 2) with
    | true => rfl
    | false =>
      exfalso
      have := (good_frameO ho).2 hg
      rw [e] at this
      have hf : frameOut b x = (sealT (bts (outRow (nCars b) x)), 0) := by unfold frameOut; simp only [hB, hx, decide_true, Bool.and_self, cond_true]
      rw [hf] at this
      simp at this
  unfold readOut
  rw [if_pos ho, if_pos hg, e]
theorem same_refl (x : InT) : F14 (x, x) = true := by
  unfold F14
  simp only [beq_self_eq_true, Bool.and_self, Bool.not_true, Bool.or_false, bne_self_eq_false, cond_false]
  have : R14_4 (x, x) (0 : Int) = none := by
    unfold R14_4
    refine ret_none (fun _ => True) (fun i _ => ?_) _ _ trivial
    unfold st14_4
    simp only [beq_self_eq_true, Bool.and_self, Bool.not_true, Bool.or_false, bne_self_eq_false, cond_false]
    cases decide (i < (x.2.2.length : Int)) <;> simp
  rw [this]
  rfl
theorem same_reflO (x : OutT) : F22 (x, x) = true := by
  unfold F22
  simp only [beq_self_eq_true, Bool.and_self, Bool.not_true, Bool.or_false, bne_self_eq_false, cond_false]
  have : R22_4 (x, x) (0 : Int) = none := by
    unfold R22_4
    refine ret_none (fun _ => True) (fun i _ => ?_) _ _ trivial
    unfold st22_4
    simp only [beq_self_eq_true, Bool.and_self, Bool.not_true, Bool.or_false, bne_self_eq_false, cond_false]
    cases decide (i < (x.2.2.2.2.2.length : Int)) <;> simp
  rw [this]
  rfl
theorem sane_true : F8 () = true := by kernel_rfl
end Go.Proofs.Ytbnihoioblmgkaa.Sp
end

section
/- What the laws' calls need (own work). -/
namespace Go.Proofs.Ytbnihoioblmgkaa.Sp
open Go Sy
set_option linter.unusedVariables false
set_option linter.unusedSimpArgs false
section
variable {n : Int} (h : 0 ≤ n ∧ n ≤ 255)
include h
theorem bB : IsB (F9 n) := build_isB h
theorem bn : nc (F9 n) ≤ 8 ∧ 1 ≤ nc (F9 n) := by
  have hc := (bB h).cn
  exact ⟨hc.2, hc.1⟩
theorem bl : (BldT.cars (F9 n)).length ≤ maxLen := by
  have h1 := (bB h).cn.2
  unfold maxLen
  omega
theorem p10 (x : InT) : pre10 (F9 n, x) := ⟨(bB h).fl.1, (bB h).fl.2, (bB h).cn.1, (bB h).cn.2⟩
theorem p18 (x : OutT) : pre18 (F9 n, x) := ⟨(bB h).fl.1, (bB h).fl.2, (bB h).cn.1, (bB h).cn.2⟩
theorem b30 : (F9 n).2.2.2.2.2.2.2.length ≤ 30 := by
  have h1 := (bn h).1
  show nc (F9 n) ≤ 30
  omega
theorem f30 (x : InT) : (F10 (F9 n, x)).2.2.length ≤ 30 := by
  have h1 := (bn h).1
  rw [fitted_eq _ h1]
  show (fitCars _ _).length ≤ 30
  rw [fitCars_len]
  omega
theorem o30 (x : OutT) : (F18 (F9 n, x)).2.2.2.2.2.length ≤ 30 := by
  have h1 := (bn h).1
  rw [outputs_eq _ h1]
  show (fitCarsO _ _).length ≤ 30
  rw [fitCarsO_len]
  omega
theorem s3 {y : InT} (h2 : y.2.2.length ≤ 20) : pre11 (F9 n, y) ∧ pre12 (F9 n, y) := ⟨⟨by show y.2.2.length ≤ 30; omega, b30 h⟩, by show y.2.2.length ≤ 30; omega⟩
theorem s7 {y : OutT} (h2 : y.2.2.2.2.2.length ≤ 20) : pre23 (F9 n, y) ∧ pre17 (F9 n, y) := ⟨⟨by show y.2.2.2.2.2.length ≤ 30; omega, b30 h⟩, by show y.2.2.2.2.2.length ≤ 30; omega⟩
theorem fit_frame (x : InT) : F12 (F9 n, F10 (F9 n, x)) = (sealT (bts (inRow (nCars (F9 n)) (fitIn (F9 n) x))), 0) := by
  have hf := fit_ok (bB h) (bl h) x
  rw [fitted_eq _ (bn h).1, rIn_eq _ (bl h) _ (by rw [← fitted_eq _ (bn h).1]; exact f30 h x) hf.2]
  unfold frameIn
  simp only [bB h, hf.1, decide_true, Bool.and_self, cond_true]
theorem out_frame (x : OutT) : F17 (F9 n, F18 (F9 n, x)) = (sealT (bts (outRow (nCars (F9 n)) (fitOut (F9 n) x))), 0) := by
  have hf := fitO_ok (bB h) (bl h) x
  rw [outputs_eq _ (bn h).1, rOut_eq _ (bl h) _ (by rw [← outputs_eq _ (bn h).1]; exact o30 h x)]
  unfold frameOut
  simp only [bB h, hf, decide_true, Bool.and_self, cond_true]
theorem fit_size (x : InT) : (F12 (F9 n, F10 (F9 n, x))).1.size = 14 + 19 * nc (F9 n) := by
  rw [fit_frame h, sealT_size, bts_size, inRow_len]
  show 12 + 19 * (fitCars _ _).length + 2 = _
  rw [fitCars_len]
  omega
theorem out_size (x : OutT) : (F17 (F9 n, F18 (F9 n, x))).1.size = 23 + 19 * nc (F9 n) := by
  rw [out_frame h, sealT_size, bts_size, outRow_len]
  show 21 + 19 * (fitCarsO _ _).length + 2 = _
  rw [fitCarsO_len]
  omega
theorem rsz : (F15 (F9 n)).1 = 14 + 19 * nCars (F9 n) := by rw [rsize_ok (bB h) (rvalid0 (bl h) (bB h))]
theorem rsz2 : IntKind.i64.wrap ((F15 (F9 n)).1 - (2 : Int)) = ((12 + 19 * nc (F9 n) : Nat) : Int) := by
  have h1 := (bn h).1
  rw [rsz h]
  show IntKind.i64.wrap (14 + 19 * (nc (F9 n) : Int) - 2) = _
  rw [wrap_i64_of (by omega) (by omega)]
  omega
end
theorem readIn_len (b : BldT) (s : ByteArray) : (readIn b s).1.2.2.length ≤ nc b := by
  unfold readIn
  split
  · split
    · show ((List.range (nc b)).map _).length ≤ nc b
      simp
    · exact Nat.zero_le _
  · exact Nat.zero_le _
theorem two_cases {s t : ByteArray} {x : Int} (h0 : 0 ≤ x) (h1 : x < 2) {p : ByteArray → Prop} (hs : p s) (ht : p t) : p (nthT [s, t] x) := by
  have : x = 0 ∨ x = 1 := by omega
  rcases this with rfl | rfl
  · exact hs
  · exact ht
theorem idx256 {v : Int} {n : Nat} (h : 0 ≤ v ∧ v ≤ 255) (h1 : 1 ≤ n) (h2 : n ≤ 1000) : IntKind.i64.wrap (Int.tdiv (IntKind.i64.wrap (IntKind.i64.wrap v * (n : Int))) 256) = v * (n : Int) / 256 ∧ 0 ≤ v * (n : Int) / 256 ∧ v * (n : Int) / 256 < (n : Int) := by
  have hp : 0 ≤ v * (n : Int) := Int.mul_nonneg h.1 (by omega)
  have hq : v * (n : Int) ≤ 255 * (n : Int) := Int.mul_le_mul_of_nonneg_right h.2 (by omega)
  rw [wrap_i64_of (x := v) (by omega) (by omega)]
  generalize v * (n : Int) = P at hp hq ⊢
  rw [wrap_i64_of (x := P) (by omega) (by omega), Int.tdiv_eq_ediv_of_nonneg hp, wrap_i64_of (x := P / 256) (by omega) (by omega)]
  refine ⟨rfl, by omega, by omega⟩
theorem le01 {i : Int} (h0 : 0 ≤ i) (h1 : i < 16) : 0 ≤ i + 1 ∧ i + 1 ≤ 16 := by omega
theorem idx8 {a i : Int} {n : Nat} (h0 : 0 ≤ a) (h1 : a ≤ 8000) (h2 : 0 ≤ i) (h3 : i < 16) (h4 : n ≤ 1000) : IntKind.i64.wrap (a + i) = a + i ∧ IntKind.i64.wrap (8 * (n : Int)) = 8 * (n : Int) ∧ (a + i < 8 * (n : Int) → IntKind.i64.wrap (Int.tdiv (a + i) 8) = (a + i) / 8 ∧ 0 ≤ (a + i) / 8 ∧ (a + i) / 8 < (n : Int)) := by
  refine ⟨wrap_i64_of (by omega) (by omega), wrap_i64_of (by omega) (by omega), fun h => ?_⟩
  rw [Int.tdiv_eq_ediv_of_nonneg (by omega), wrap_i64_of (by omega) (by omega)]
  exact ⟨rfl, by omega, by omega⟩
theorem mod8 {n : Nat} {y : Int} (hn : 1 ≤ n ∧ n ≤ 1000) (h0 : 0 ≤ y) (h1 : y ≤ 65535) : IntKind.i64.wrap (8 * (n : Int)) = 8 * (n : Int) ∧ 0 ≤ Int.tmod (IntKind.i64.wrap y) (8 * (n : Int)) ∧ Int.tmod (IntKind.i64.wrap y) (8 * (n : Int)) ≤ 8000 := by
  refine ⟨wrap_i64_of (by omega) (by omega), ?_⟩
  rw [wrap_i64_of (x := y) (by omega) (by omega), Int.tmod_eq_emod_of_nonneg h0]
  have h2 := Int.emod_nonneg y (show 8 * (n : Int) ≠ 0 by omega)
  have h3 := Int.emod_lt_of_pos y (show 0 < 8 * (n : Int) by omega)
  omega
theorem byt_nth {l : List Int} (h : Byt l) (i : Int) : 0 ≤ nthT l i ∧ nthT l i ≤ 255 := byt_get h i.toNat
end Go.Proofs.Ytbnihoioblmgkaa.Sp
end

section
/- Contracts of functions, by the evaluator (own program gen.py): overlaylaw03.FrameBursts. -/
set_option linter.unusedVariables false
set_option linter.unusedSimpArgs false
set_option maxRecDepth 100000
namespace Go.Proofs.Ytbnihoioblmgkaa.Sp
open Go Go.RowKit Sy
def in6_13 (k : (Int × Int × Int)) (x : ((List Int) × Bool × Int)) : Prop := (0 : Int) ≤ x.2.2 ∧ x.2.2 ≤ 16 ∧ 0 ≤ k.1 ∧ k.1 ≤ 8000 ∧ x.1.length ≤ 1000
def mu6_13 (k : (Int × Int × Int)) (x : ((List Int) × Bool × Int)) : Nat := ((16 : Int) - x.2.2).toNat
def K6_13_1 (k : (Int × Int × Int)) (x : ((List Int) × Bool × Int)) :=
  (setE ty5 x.1 (IntKind.i64.wrap (Int.tdiv (IntKind.i64.wrap (k.1 + x.2.2)) (8 : Int))) (IntKind.u8.wrap ((BitVec.ofInt IntKind.u8.bits (Sp.nthT x.1 (IntKind.i64.wrap (Int.tdiv (IntKind.i64.wrap (k.1 + x.2.2)) (8 : Int)))) ^^^ BitVec.ofInt IntKind.u8.bits (IntKind.u8.wrap ((1 : Int) * 2 ^ (min ((IntKind.u64.wrap (IntKind.i64.wrap ((7 : Int) - (Int.tmod (IntKind.i64.wrap (k.1 + x.2.2)) (8 : Int)))))).toNat IntKind.u8.bits)))).toNat : Int)))
def st6_13 (k : (Int × Int × Int)) (x : ((List Int) × Bool × Int)) : BOut (Int × Int × Int) ((List Int) × Bool × Int) (Bool) :=
  bif (decide (x.2.2 < (16 : Int))) then
    (bif (((IntKind.u16.wrap ((BitVec.ofInt IntKind.u16.bits (Int.fdiv k.2.2 (2 ^ (min ((IntKind.u64.wrap x.2.2)).toNat IntKind.u16.bits))) &&& BitVec.ofInt IntKind.u16.bits (1 : Int)).toNat : Int)) == (1 : Int)) && (decide ((IntKind.i64.wrap (k.1 + x.2.2)) < (IntKind.i64.wrap ((8 : Int) * ((x.1).length : Int)))))) then
      BOut.next k ((Sp.K6_13_1 k x), true, (IntKind.i64.wrap (x.2.2 + (1 : Int))))
    else
      BOut.next k (x.1, x.2.1, (IntKind.i64.wrap (x.2.2 + (1 : Int)))))
  else
    BOut.brk k x
def G6_13 (k : (Int × Int × Int)) (x : ((List Int) × Bool × Int)) : ((List Int) × Bool × Int) := endOf st6_13 k (Nat.succ (mu6_13 k x)) x
def in6_7 (k : (ByteArray × ByteArray × (Int × Int) × BldT)) (x : (Int)) : Prop := (0 : Int) ≤ x ∧ (1 ≤ k.1.size ∧ k.1.size ≤ 1000) ∧ (1 ≤ k.2.1.size ∧ k.2.1.size ≤ 1000) ∧ 0 ≤ k.2.2.1.1 ∧ k.2.2.1.1 ≤ 65535
def mu6_7 (k : (ByteArray × ByteArray × (Int × Int) × BldT)) (x : (Int)) : Nat := ((2 : Int) - x).toNat
def st6_7 (k : (ByteArray × ByteArray × (Int × Int) × BldT)) (x : (Int)) : BOut (ByteArray × ByteArray × (Int × Int) × BldT) (Int) (Bool) :=
  bif (decide (x < (2 : Int))) then
    (bif ((Sp.G6_13 ((Int.tmod (IntKind.i64.wrap k.2.2.1.1) (IntKind.i64.wrap ((8 : Int) * (((stb (Sp.nthT [k.1, k.2.1] x))).length : Int)))), k.2.2.1) ((stb (Sp.nthT [k.1, k.2.1] x)), false, (0 : Int))).2.1 && (((Sp.F13 (k.2.2.2, (bts ((Sp.G6_13 ((Int.tmod (IntKind.i64.wrap k.2.2.1.1) (IntKind.i64.wrap ((8 : Int) * (((stb (Sp.nthT [k.1, k.2.1] x))).length : Int)))), k.2.2.1) ((stb (Sp.nthT [k.1, k.2.1] x)), false, (0 : Int))).1)))).2 == (0 : Int)) || ((Sp.F20 (k.2.2.2, (bts ((Sp.G6_13 ((Int.tmod (IntKind.i64.wrap k.2.2.1.1) (IntKind.i64.wrap ((8 : Int) * (((stb (Sp.nthT [k.1, k.2.1] x))).length : Int)))), k.2.2.1) ((stb (Sp.nthT [k.1, k.2.1] x)), false, (0 : Int))).1)))).2 == (0 : Int)))) then
      BOut.ret false
    else
      BOut.next k (IntKind.i64.wrap (x + (1 : Int))))
  else
    BOut.brk k x
def G6_7 (k : (ByteArray × ByteArray × (Int × Int) × BldT)) (x : (Int)) : (Int) := endOf st6_7 k (Nat.succ (mu6_7 k x)) x
def R6_7 (k : (ByteArray × ByteArray × (Int × Int) × BldT)) (x : (Int)) : Option (Bool) := retOf st6_7 k (Nat.succ (mu6_7 k x)) x
def F6 (x : Int × (InT) × Int × Int) : Bool :=
  bif ((decide (((x.2.1.2.2).length : Int) > (20 : Int))) || (x.2.2.2 == (0 : Int))) then
    (Sp.F8 ())
  else
    Sp.optR (Sp.R6_7 ((Sp.F12 ((Sp.F9 x.1), (Sp.F10 ((Sp.F9 x.1), x.2.1)))).1, (Sp.F17 ((Sp.F9 x.1), (Sp.F18 ((Sp.F9 x.1), ((0 : Int), (0 : Int)), x.2.1.1, true, false, (0 : Int), [])))).1, x.2.2, (Sp.F9 x.1)) (0 : Int)) (fun y => y)
    ((Sp.F8 ()))
def pre6 (x : Int × (InT) × Int × Int) : Prop := 0 ≤ x.1 ∧ x.1 ≤ 255 ∧ 0 ≤ x.2.2.1 ∧ x.2.2.1 ≤ 65535
end Go.Proofs.Ytbnihoioblmgkaa.Sp
namespace Go.Proofs.Ytbnihoioblmgkaa.Sy
open Go Go.RowKit Sp
def LS6_13 : LS ty4.den := mkLS (Ty.pair ty3 ty60) (Ty.pair ty44 (Ty.pair ty4 ty3))  [(14, none)] [(5, 2)] [(13, none), (15, none), (16, none)] [] [(0, 101300, true, 5)] [] [(5, 5)] 2 false Sp.in6_13 Sp.st6_13 Sp.mu6_13
def LS6_7 : LS ty4.den := mkLS (Ty.pair ty9 (Ty.pair ty9 (Ty.pair ty60 ty25))) ty3  [(8, none), (10, none)] [(5, 2), (7, 8)] [(12, none)] [] [] [] [(5, 5), (7, 7)] 0 true Sp.in6_7 Sp.st6_7 Sp.mu6_7
set_option maxHeartbeats 4000000 in
theorem so6_13 (k : (Ty.pair ty3 ty60).den) (x : (Ty.pair ty44 (Ty.pair ty4 ty3)).den) (fk : Fit (Ty.pair ty3 ty60) k) (h : Sp.in6_13 k x) : StepOk false Sp.in6_13 Sp.mu6_13 k x (Sp.st6_13 k x) := by
  try dsimp only [Ty.den] at *
  obtain ⟨h0, h1, h2, h3, h4⟩ := h
  unfold Sp.st6_13
  refine StepOk.cnd (fun hc => ?_) (fun _ => rfl)
  rw [decide_eq_true_eq] at hc
  have e : IntKind.i64.wrap (x.2.2 + 1) = x.2.2 + 1 := Sp.wrap_i64_of (by omega) (by omega)
  rw [e]
  refine StepOk.cnd (fun hd => ?_) (fun hd => ?_)
  · refine ⟨rfl, ⟨(Sp.le01 h0 hc).1, (Sp.le01 h0 hc).2, h2, h3, ?_⟩, ?_⟩
    · simp only [Sp.K6_13_1, setE, List.length_set]
      exact h4
    · simp only [Sp.mu6_13]
      omega
  · refine ⟨rfl, ⟨(Sp.le01 h0 hc).1, (Sp.le01 h0 hc).2, h2, h3, h4⟩, ?_⟩
    simp only [Sp.mu6_13]
    omega
set_option maxHeartbeats 4000000 in
theorem lo6_13 : LoopOk Try.prog gdS (RetAt Try.prog Try.f6 (Rsh.one (none)) none ty4) (bodyAt (bodyOf Try.f6) [0, 0]) LS6_13 :=
  loop_run (ctxOkZ (zkokZmH3 true) pgokPmG0 fvok_none gokGmL5 [(6, [33])]) (L := lookL []) (d := BOut.brk (Ty.dflt (Ty.pair ty3 ty60)) (Ty.dflt (Ty.pair ty44 (Ty.pair ty4 ty3)))) (loops_of (l := []) (by kernel_rfl) (loops_nil)) (fun k x fk fx h => safe_of (S := ((((decide (x.2.2 < (16 : Int))) = true → ((0 ≤ (IntKind.u64.wrap x.2.2)) ∧ (((((IntKind.u16.wrap ((BitVec.ofInt IntKind.u16.bits (Int.fdiv k.2.2 (2 ^ (min ((IntKind.u64.wrap x.2.2)).toNat IntKind.u16.bits))) &&& BitVec.ofInt IntKind.u16.bits (1 : Int)).toNat : Int)) == (1 : Int)) && (decide ((IntKind.i64.wrap (k.1 + x.2.2)) < (IntKind.i64.wrap ((8 : Int) * ((x.1).length : Int)))))) = true → (((8 : Int) ≠ 0) ∧ (((8 : Int) ≠ 0) ∧ ((0 ≤ (IntKind.i64.wrap (Int.tdiv (IntKind.i64.wrap (k.1 + x.2.2)) (8 : Int))) ∧ (IntKind.i64.wrap (Int.tdiv (IntKind.i64.wrap (k.1 + x.2.2)) (8 : Int))) < ((x.1).length : Int)) ∧ (((8 : Int) ≠ 0) ∧ ((0 ≤ (IntKind.u64.wrap (IntKind.i64.wrap ((7 : Int) - (Int.tmod (IntKind.i64.wrap (k.1 + x.2.2)) (8 : Int)))))) ∧ ((0 ≤ (IntKind.i64.wrap (Int.tdiv (IntKind.i64.wrap (k.1 + x.2.2)) (8 : Int))) ∧ (IntKind.i64.wrap (Int.tdiv (IntKind.i64.wrap (k.1 + x.2.2)) (8 : Int))) < ((x.1).length : Int)) ∧ True))))))) ∧ ((((IntKind.u16.wrap ((BitVec.ofInt IntKind.u16.bits (Int.fdiv k.2.2 (2 ^ (min ((IntKind.u64.wrap x.2.2)).toNat IntKind.u16.bits))) &&& BitVec.ofInt IntKind.u16.bits (1 : Int)).toNat : Int)) == (1 : Int)) && (decide ((IntKind.i64.wrap (k.1 + x.2.2)) < (IntKind.i64.wrap ((8 : Int) * ((x.1).length : Int)))))) = false → True)))) ∧ ((decide (x.2.2 < (16 : Int))) = false → True)))) (by kernel_rfl) (by
  try dsimp only [Ty.den] at *
  obtain ⟨h0, h1, h2, h3, h4⟩ := h
  refine ⟨fun hc => ⟨Sp.u64_nn _, fun hd => ?_, fun _ => trivial⟩, fun _ => trivial⟩
  rw [decide_eq_true_eq] at hc
  rw [Bool.and_eq_true, decide_eq_true_eq] at hd
  obtain ⟨e1, e2, e3⟩ := Sp.idx8 (n := x.1.length) h2 h3 h0 hc h4
  rw [e1, e2] at hd
  rw [e1, (e3 hd.2).1]
  exact ⟨by omega, by omega, (e3 hd.2).2, by omega, Sp.u64_nn _, (e3 hd.2).2, trivial⟩)) (fun k x => by kernel_rfl) so6_13
set_option maxHeartbeats 4000000 in
theorem so6_7 (k : (Ty.pair ty9 (Ty.pair ty9 (Ty.pair ty60 ty25))).den) (x : ty3.den) (fk : Fit (Ty.pair ty9 (Ty.pair ty9 (Ty.pair ty60 ty25))) k) (h : Sp.in6_7 k x) : StepOk true Sp.in6_7 Sp.mu6_7 k x (Sp.st6_7 k x) := by
  try dsimp only [Ty.den] at *
  simp only [Sp.in6_7, Fit, maxLen] at h fk
  unfold Sp.st6_7
  (repeat' (first | exact rfl | (refine StepOk.cnd (fun hc => ?_) (fun hc => ?_) <;> (try simp only [IntKind.wrap_i64, IntKind.wrap_u8, IntKind.wrap_u32, IntKind.wrap_u64, bne_eq_false_iff_eq, Int.natCast_inj, setE, copyL, sliceL, zrow, List.length_append, List.length_cons, List.length_nil, List.length_set, List.length_replicate, List.length_take, List.length_drop, decide_eq_true_eq, decide_eq_false_iff_not, Bool.or_eq_true, Bool.and_eq_true, Bool.or_eq_false_iff, Bool.and_eq_false_iff, Bool.not_eq_true', Bool.not_eq_false', Bool.not_eq_true, Bool.not_eq_false, beq_iff_eq, beq_eq_false_iff_ne, bne_iff_ne, ne_eq] at hc)) | refine StepOk.opt (fun _ => ?_))) <;> (first | exact rfl | (refine ⟨rfl, ?_, ?_⟩ <;> simp only [Sp.in6_7, Sp.mu6_7, IntKind.wrap_i64, IntKind.wrap_u8, IntKind.wrap_u32, IntKind.wrap_u64, Sp.tmod_lit, Sp.tdiv_lit, bne_eq_false_iff_eq, Int.natCast_inj, setE, copyL, sliceL, zrow, List.length_append, List.length_cons, List.length_nil, List.length_set, List.length_replicate, List.length_take, List.length_drop, decide_eq_true_eq, decide_eq_false_iff_not, Bool.or_eq_true, Bool.and_eq_true, Bool.or_eq_false_iff, Bool.and_eq_false_iff, Bool.not_eq_true', Bool.not_eq_false', Bool.not_eq_true, Bool.not_eq_false, beq_iff_eq, beq_eq_false_iff_ne, bne_iff_ne, ne_eq] <;> first | omega | (and_intros <;> first | omega | exact h.1 | exact h.2 | exact h.2.1 | exact h.2.2 | exact h.2.2.1 | exact h.2.2.2 | exact h.2.2.2.1 | exact h.2.2.2.2 | exact h.2.2.2.2.1 | exact h.2.2.2.2.2 | exact h.2.2.2.2.2.1 | exact h.2.2.2.2.2.2)))
set_option maxHeartbeats 4000000 in
theorem lo6_7 : LoopOk Try.prog gdS (RetAt Try.prog Try.f6 (Rsh.one (none)) none ty4) (bodyAt (bodyOf Try.f6) [0]) LS6_7 :=
  loop_run (ctxOkZ (zkokZmH3 true) pgokPmG0 fvok_none gokGmL5 [(6, [33])]) (L := lookL [(13, LS6_13)]) (d := BOut.brk (Ty.dflt (Ty.pair ty9 (Ty.pair ty9 (Ty.pair ty60 ty25)))) (Ty.dflt ty3)) (loops_of (l := [bodyAt (bodyOf Try.f6) [0, 0]]) (by kernel_rfl) (loops_cons (s0 := LS6_13) (by kernel_rfl) lo6_13 (loops_nil))) (fun k x fk fx h => safe_of (S := ((((decide (x < (2 : Int))) = true → ((0 ≤ x ∧ x < (([k.1, k.2.1]).length : Int)) ∧ ((((ByteArray.size (Sp.nthT [k.1, k.2.1] x) : Nat) : Int) ≤ 9223372036854775807) ∧ (((IntKind.i64.wrap ((8 : Int) * (((stb (Sp.nthT [k.1, k.2.1] x))).length : Int))) ≠ 0) ∧ ((Sp.in6_13 ((Int.tmod (IntKind.i64.wrap k.2.2.1.1) (IntKind.i64.wrap ((8 : Int) * (((stb (Sp.nthT [k.1, k.2.1] x))).length : Int)))), k.2.2.1) ((stb (Sp.nthT [k.1, k.2.1] x)), false, (0 : Int))) ∧ ((Sp.pre13 (k.2.2.2, (bts ((Sp.G6_13 ((Int.tmod (IntKind.i64.wrap k.2.2.1.1) (IntKind.i64.wrap ((8 : Int) * (((stb (Sp.nthT [k.1, k.2.1] x))).length : Int)))), k.2.2.1) ((stb (Sp.nthT [k.1, k.2.1] x)), false, (0 : Int))).1)))) ∧ ((Sp.pre20 (k.2.2.2, (bts ((Sp.G6_13 ((Int.tmod (IntKind.i64.wrap k.2.2.1.1) (IntKind.i64.wrap ((8 : Int) * (((stb (Sp.nthT [k.1, k.2.1] x))).length : Int)))), k.2.2.1) ((stb (Sp.nthT [k.1, k.2.1] x)), false, (0 : Int))).1)))) ∧ ((((Sp.G6_13 ((Int.tmod (IntKind.i64.wrap k.2.2.1.1) (IntKind.i64.wrap ((8 : Int) * (((stb (Sp.nthT [k.1, k.2.1] x))).length : Int)))), k.2.2.1) ((stb (Sp.nthT [k.1, k.2.1] x)), false, (0 : Int))).2.1 && (((Sp.F13 (k.2.2.2, (bts ((Sp.G6_13 ((Int.tmod (IntKind.i64.wrap k.2.2.1.1) (IntKind.i64.wrap ((8 : Int) * (((stb (Sp.nthT [k.1, k.2.1] x))).length : Int)))), k.2.2.1) ((stb (Sp.nthT [k.1, k.2.1] x)), false, (0 : Int))).1)))).2 == (0 : Int)) || ((Sp.F20 (k.2.2.2, (bts ((Sp.G6_13 ((Int.tmod (IntKind.i64.wrap k.2.2.1.1) (IntKind.i64.wrap ((8 : Int) * (((stb (Sp.nthT [k.1, k.2.1] x))).length : Int)))), k.2.2.1) ((stb (Sp.nthT [k.1, k.2.1] x)), false, (0 : Int))).1)))).2 == (0 : Int)))) = true → True) ∧ (((Sp.G6_13 ((Int.tmod (IntKind.i64.wrap k.2.2.1.1) (IntKind.i64.wrap ((8 : Int) * (((stb (Sp.nthT [k.1, k.2.1] x))).length : Int)))), k.2.2.1) ((stb (Sp.nthT [k.1, k.2.1] x)), false, (0 : Int))).2.1 && (((Sp.F13 (k.2.2.2, (bts ((Sp.G6_13 ((Int.tmod (IntKind.i64.wrap k.2.2.1.1) (IntKind.i64.wrap ((8 : Int) * (((stb (Sp.nthT [k.1, k.2.1] x))).length : Int)))), k.2.2.1) ((stb (Sp.nthT [k.1, k.2.1] x)), false, (0 : Int))).1)))).2 == (0 : Int)) || ((Sp.F20 (k.2.2.2, (bts ((Sp.G6_13 ((Int.tmod (IntKind.i64.wrap k.2.2.1.1) (IntKind.i64.wrap ((8 : Int) * (((stb (Sp.nthT [k.1, k.2.1] x))).length : Int)))), k.2.2.1) ((stb (Sp.nthT [k.1, k.2.1] x)), false, (0 : Int))).1)))).2 == (0 : Int)))) = false → True))))))))) ∧ ((decide (x < (2 : Int))) = false → True)))) (by kernel_rfl) (by
  try dsimp only [Ty.den] at *
  obtain ⟨h0, h1, h2, h3, h4⟩ := h
  refine ⟨fun hc => ?_, fun _ => trivial⟩
  rw [decide_eq_true_eq] at hc
  have hq : 1 ≤ (Sp.nthT [k.1, k.2.1] x).size ∧ (Sp.nthT [k.1, k.2.1] x).size ≤ 1000 := Sp.two_cases (p := fun s => 1 ≤ s.size ∧ s.size ≤ 1000) h0 hc h1 h2
  obtain ⟨e1, e2, e3⟩ := Sp.mod8 hq h3 h4
  rw [Sp.stb_len, e1]
  exact ⟨⟨by omega, hc⟩, by omega, by omega, ⟨Int.le_refl _, by show (0 : Int) ≤ 16; omega, e2, e3, by rw [Sp.stb_len]; exact hq.2⟩, trivial, trivial, fun _ => trivial, fun _ => trivial⟩)) (fun k x => by kernel_rfl) so6_7
def ct6 : Ct := { p := (Ty.pair ty5 (Ty.pair ty33 ty60)), psh := [none, some 5, some 2], r := ty4, rsh := (Rsh.one (none)), pre := some Sp.pre6, fresh := none, F := Sp.F6 }
theorem ok6 : CtOk Try.prog gdS 6 ct6 :=
  fn_okU (ctxOkZ (zkokZmH3 true) pgokPmG0 fvok_none gokGmL5 [(6, [33])]) rfl Try.func6 (p := (Ty.pair ty5 (Ty.pair ty33 ty60))) (psh := [none, some 5, some 2]) (r := ty4) (rsh := (Rsh.one (none))) (pre := some Sp.pre6) (fresh := none) (F := Sp.F6) (L := (lookL [(13, LS6_13), (7, LS6_7)])) (c := bodyOf Try.f6) (dflt := Ty.dflt ty4) rfl (loops_of (l := [bodyAt (bodyOf Try.f6) [0]]) (by kernel_rfl) (loops_cons (s0 := LS6_7) (by kernel_rfl) lo6_7 (loops_nil)))
    (fun x fx hq => have h := hq _ rfl; safe_of (S := (((((decide (((x.2.1.2.2).length : Int) > (20 : Int))) || (x.2.2.2 == (0 : Int))) = true → True) ∧ (((decide (((x.2.1.2.2).length : Int) > (20 : Int))) || (x.2.2.2 == (0 : Int))) = false → ((Sp.pre9 x.1) ∧ ((Sp.pre10 ((Sp.F9 x.1), x.2.1)) ∧ ((Sp.pre12 ((Sp.F9 x.1), (Sp.F10 ((Sp.F9 x.1), x.2.1)))) ∧ ((Sp.pre18 ((Sp.F9 x.1), ((0 : Int), (0 : Int)), x.2.1.1, true, false, (0 : Int), [])) ∧ ((Sp.pre17 ((Sp.F9 x.1), (Sp.F18 ((Sp.F9 x.1), ((0 : Int), (0 : Int)), x.2.1.1, true, false, (0 : Int), [])))) ∧ ((Sp.in6_7 ((Sp.F12 ((Sp.F9 x.1), (Sp.F10 ((Sp.F9 x.1), x.2.1)))).1, (Sp.F17 ((Sp.F9 x.1), (Sp.F18 ((Sp.F9 x.1), ((0 : Int), (0 : Int)), x.2.1.1, true, false, (0 : Int), [])))).1, x.2.2, (Sp.F9 x.1)) (0 : Int)) ∧ ((Sp.R6_7 ((Sp.F12 ((Sp.F9 x.1), (Sp.F10 ((Sp.F9 x.1), x.2.1)))).1, (Sp.F17 ((Sp.F9 x.1), (Sp.F18 ((Sp.F9 x.1), ((0 : Int), (0 : Int)), x.2.1.1, true, false, (0 : Int), [])))).1, x.2.2, (Sp.F9 x.1)) (0 : Int)) = none → True))))))))))) (by kernel_rfl) (by
  try dsimp only [Ty.den] at *
  obtain ⟨h, h0, hb⟩ := h
  have h := And.intro h h0
  have h1 := (Sp.bn h).1
  have hs := Sp.fit_size h x.2.1
  refine ⟨fun _ => trivial, fun hc => ⟨h, Sp.p10 h _, Sp.f30 h _, Sp.p18 h _, Sp.o30 h _, ⟨Int.le_refl _, ?_, ?_, hb⟩, fun _ => trivial⟩⟩
  · simp only [hs]
    omega
  · have ht := fun y => Sp.out_size h y
    simp only [ht]
    omega)) (fun x => by kernel_rfl)
def GmW0 : List (Nat × Ct) := (6, ct6) :: GmL5
theorem gokGmW0 : GOk GmW0 := gok_cons ok6 ⟨_, Try.func6, by kernel_rfl, by kernel_rfl⟩ (gokGmL5)
end Go.Proofs.Ytbnihoioblmgkaa.Sy
end

section
/- FrameBursts: the plain law (own work). -/
namespace Go.Proofs.Ytbnihoioblmgkaa.Sp
open Go Sy Crc
set_option linter.unusedVariables false
set_option linter.unusedSimpArgs false
theorem of8w (n : Int) : BitVec.ofInt 8 (IntKind.u8.wrap n) = BitVec.ofInt 8 n := by
  rw [IntKind.wrap_u8]
  apply BitVec.eq_of_toNat_eq
  simp only [BitVec.toNat_ofInt]
  omega
theorem of8n (v : BitVec 8) : BitVec.ofInt 8 (v.toNat : Int) = v := by
  apply BitVec.eq_of_toNat_eq
  simp only [BitVec.toNat_ofInt]
  have := v.isLt
  omega
theorem pow8 : ∀ e : Fin 8, BitVec.ofInt 8 ((1 : Int) * 2 ^ e.val) = 1#8 <<< e.val := by decide
def flipB (v j : Int) : Int := IntKind.u8.wrap ((BitVec.ofInt IntKind.u8.bits v ^^^ BitVec.ofInt IntKind.u8.bits (IntKind.u8.wrap ((1 : Int) * 2 ^ (min ((IntKind.u64.wrap (IntKind.i64.wrap ((7 : Int) - (Int.tmod j (8 : Int)))))).toNat IntKind.u8.bits)))).toNat : Int)
theorem flipB_byt (v j : Int) : 0 ≤ flipB v j ∧ flipB v j ≤ 255 := by
  unfold flipB
  rw [IntKind.wrap_u8]
  omega
theorem flipB_eq (v : Int) (j : Nat) : BitVec.ofInt 8 (flipB v (j : Int)) = BitVec.ofInt 8 v ^^^ 1#8 <<< (7 - j % 8) := by
  have e0 : Int.tmod (j : Int) 8 = ((j % 8 : Nat) : Int) := by rw [Int.tmod_eq_emod_of_nonneg (by omega)]; omega
  have e1 : IntKind.u64.wrap (IntKind.i64.wrap ((7 : Int) - ((j % 8 : Nat) : Int))) = ((7 - j % 8 : Nat) : Int) := by
    rw [wrap_i64_of (by omega) (by omega), IntKind.wrap_u64]
    omega
  have e2 : min (Int.toNat ((7 - j % 8 : Nat) : Int)) IntKind.u8.bits = 7 - j % 8 := by
    show min (Int.toNat ((7 - j % 8 : Nat) : Int)) 8 = 7 - j % 8
    omega
  unfold flipB
  rw [e0, e1, e2]
  have e3 := pow8 ⟨7 - j % 8, by omega⟩
  simp only at e3
  show BitVec.ofInt 8 (IntKind.u8.wrap (((BitVec.ofInt 8 v ^^^ BitVec.ofInt 8 (IntKind.u8.wrap ((1 : Int) * 2 ^ (7 - j % 8)))).toNat : Nat) : Int)) = _
  rw [of8w, of8n, of8w, e3]
theorem byt_set' {l : List Int} (h : Byt l) (i : Nat) {v : Int} (hv : 0 ≤ v ∧ v ≤ 255) : Byt (l.set i v) := fun x hx => by
  rcases List.mem_or_eq_of_mem_set hx with h1 | h1
  · exact h x h1
  · rw [h1]; exact hv
theorem bvs_getD (l : List Int) (i : Nat) : (bvs l).getD i 0#8 = BitVec.ofInt 8 (l.getD i 0) := by
  unfold bvs
  rw [List.getD_eq_getElem?_getD, List.getD_eq_getElem?_getD, List.getElem?_map]
  cases l[i]? <;> rfl
theorem flip_sum {l : List Int} {j : Nat} (h : j < 8 * l.length) (r : BitVec 16) : crc r (bvs (l.set (j / 8) (flipB (l.getD (j / 8) 0) (j : Int)))) = crc r (bvs l) ^^^ it (8 * l.length - j) 0x8000#16 := by
  have e : bvs (l.set (j / 8) (flipB (l.getD (j / 8) 0) (j : Int))) = (bvs l).set (j / 8) ((bvs l).getD (j / 8) 0#8 ^^^ 1#8 <<< (7 - j % 8)) := by
    rw [bvs_getD, ← flipB_eq]
    unfold bvs
    rw [List.map_set]
  rw [e, crc_flip _ _ _ (by rw [bvs_len]; exact h), bvs_len]
def burst (L at0 : Nat) (y : List Int × Bool × Int) : Prop :=
  Byt y.1 ∧ y.1.length = L ∧ 0 ≤ y.2.2 ∧ ∃ W : BitVec 16, crc 0xFFFF#16 (bvs y.1) = it (8 * L - at0) W ∧ (y.2.1 = true → W ≠ 0#16) ∧ ∀ j : Nat, y.2.2 ≤ (j : Int) → j < 16 → W.getLsbD (15 - j) = false
theorem top_bit (i j : Nat) (hi : i < 16) (hj : j < 16) : (0x8000#16 >>> i).getLsbD (15 - j) = decide (i = j) := by
  have : ∀ i j : Fin 16, (0x8000#16 >>> i.val).getLsbD (15 - j.val) = decide (i.val = j.val) := by decide
  exact this ⟨i, hi⟩ ⟨j, hj⟩
theorem burst_step {L at0 : Nat} (hL : L ≤ 1000) (ha : at0 ≤ 8000) (y0 y1 : Int) {y : List Int × Bool × Int} (hy : burst L at0 y) {k' : Int × Int × Int} {z : List Int × Bool × Int} (hs : st6_13 ((at0 : Int), y0, y1) y = .next k' z) : burst L at0 z := by
  obtain ⟨l, ch, i⟩ := y
  obtain ⟨hb, hl, h0, W, hc, hw, hz⟩ := hy
  simp only at hb hl h0 hc hw hz
  unfold st6_13 at hs
  simp only at hs
  by_cases h16 : i < 16
  · rw [decide_eq_true h16] at hs
    simp only [cond_true] at hs
    have ei : IntKind.i64.wrap (i + 1) = i + 1 := wrap_i64_of (by omega) (by omega)
    rw [ei] at hs
    obtain ⟨n, rfl⟩ := Int.eq_ofNat_of_zero_le h0
    obtain ⟨e1, e2, e3⟩ := idx8 (a := (at0 : Int)) (i := (n : Int)) (n := l.length) (by omega) (by omega) (by omega) (by omega) (by omega)
    rw [e1, e2] at hs
    revert hs
    cases hd : (((IntKind.u16.wrap ((BitVec.ofInt IntKind.u16.bits (Int.fdiv y1 (2 ^ (min ((IntKind.u64.wrap (n : Int))).toNat IntKind.u16.bits))) &&& BitVec.ofInt IntKind.u16.bits (1 : Int)).toNat : Int)) == (1 : Int)) && (decide ((at0 : Int) + (n : Int) < 8 * (l.length : Int)))) with
    | true =>
      intro hs
      simp only [cond_true, BOut.next.injEq] at hs
      obtain ⟨rfl, rfl⟩ := hs
      rw [Bool.and_eq_true, decide_eq_true_eq] at hd
      have hlt := hd.2
      have e4 : K6_13_1 ((at0 : Int), y0, y1) (l, ch, (n : Int)) = l.set ((at0 + n) / 8) (flipB (l.getD ((at0 + n) / 8) 0) ((at0 + n : Nat) : Int)) := by
        unfold K6_13_1
        simp only
        rw [e1, (e3 hlt).1]
        have e5 : ((at0 : Int) + (n : Int)) / 8 = (((at0 + n) / 8 : Nat) : Int) := by omega
        have e6 : (at0 : Int) + (n : Int) = ((at0 + n : Nat) : Int) := by omega
        rw [e5, e6]
        rfl
      rw [e4]
      refine ⟨byt_set' hb _ (flipB_byt _ _), by rw [List.length_set]; exact hl, by show (0 : Int) ≤ (n : Int) + 1; omega, W ^^^ (0x8000#16 >>> n), ?_, ?_, ?_⟩
      · show crc 0xFFFF#16 (bvs (l.set ((at0 + n) / 8) (flipB (l.getD ((at0 + n) / 8) 0) ((at0 + n : Nat) : Int)))) = _
        rw [flip_sum (by omega), hc, hl, show 8 * L - (at0 + n) = (8 * L - at0) - n by omega, it_first _ n (by omega) (by omega), ← it_xor]
      · intro _ he
        have h1 := congrArg (fun v => BitVec.getLsbD v (15 - n)) he
        simp only [BitVec.getLsbD_xor] at h1
        rw [hz n (by omega) (by omega), top_bit n n (by omega) (by omega)] at h1
        simp at h1
      · intro j hj hj2
        have hj : (n : Int) + 1 ≤ (j : Int) := hj
        rw [BitVec.getLsbD_xor, hz j (by omega) hj2, top_bit n j (by omega) hj2]
        simp
        omega
    | false =>
      intro hs
      simp only [cond_false, BOut.next.injEq] at hs
      obtain ⟨rfl, rfl⟩ := hs
      refine ⟨hb, hl, by show (0 : Int) ≤ (n : Int) + 1; omega, W, hc, hw, fun j hj hj2 => ?_⟩
      have hj : (n : Int) + 1 ≤ (j : Int) := hj
      exact hz j (by omega) hj2
  · rw [decide_eq_false h16] at hs
    cases hs
theorem burst_brk {L at0 : Nat} (y0 y1 : Int) {y : List Int × Bool × Int} (hy : burst L at0 y) {k' : Int × Int × Int} {z : List Int × Bool × Int} (hs : st6_13 ((at0 : Int), y0, y1) y = .brk k' z) : burst L at0 z := by
  unfold st6_13 at hs
  simp only at hs
  by_cases h16 : y.2.2 < 16
  · rw [decide_eq_true h16] at hs
    simp only [cond_true] at hs
    revert hs
    generalize ((IntKind.u16.wrap _ == (1 : Int)) && _) = c
    cases c <;> intro hs <;> cases hs
  · rw [decide_eq_false h16] at hs
    cases hs
    exact hy
theorem burst_end {L at0 : Nat} (hL : L ≤ 1000) (ha : at0 ≤ 8000) (y0 y1 : Int) {l : List Int} (hb : Byt l) (hl : l.length = L) (hc : crc 0xFFFF#16 (bvs l) = 0#16) : burst L at0 (G6_13 ((at0 : Int), y0, y1) (l, false, (0 : Int))) := by
  unfold G6_13
  refine end_inv (I := burst L at0) (fun y k' z hy hs => burst_step hL ha y0 y1 hy hs) (fun y k' z hy hs => burst_brk y0 y1 hy hs) _ _ ?_
  exact ⟨hb, hl, Int.le_refl _, 0#16, by rw [it_zero]; exact hc, fun h => (Bool.noConfusion h : False).elim, fun j _ _ => BitVec.getLsbD_zero⟩
theorem readIn_sum {b : BldT} {s : ByteArray} (h : sum s ≠ 0#16) : (readIn b s).2 ≠ 0 := by
  unfold readIn
  by_cases ho : opn b s (14 + 19 * nCars b) 165 = 0
  · exact absurd (opn_ok ho).2.2.2.2 h
  · rw [if_neg ho]
    exact ho
theorem readOut_sum {b : BldT} {s : ByteArray} (h : sum s ≠ 0#16) : (readOut b s).2 ≠ 0 := by
  unfold readOut
  by_cases ho : opn b s (23 + 19 * nCars b) 90 = 0
  · exact absurd (opn_ok ho).2.2.2.2 h
  · rw [if_neg ho]
    exact ho
theorem bursts_out {b : BldT} (hl : b.cars.length ≤ maxLen) {s t : ByteArray} (hs : sum s = 0#16 ∧ 1 ≤ s.size ∧ s.size ≤ 1000) (ht : sum t = 0#16 ∧ 1 ≤ t.size ∧ t.size ≤ 1000) (y : Int × Int) (hy : 0 ≤ y.1 ∧ y.1 ≤ 65535) : R6_7 (s, t, y, b) (0 : Int) = none := by
  unfold R6_7
  refine ret_none (fun i => 0 ≤ i) (fun i h0 => ?_) _ _ (Int.le_refl _)
  unfold st6_7
  by_cases h2 : i < 2
  · rw [decide_eq_true h2]
    simp only [cond_true]
    have hq := two_cases (s := s) (t := t) (x := i) (p := fun s => sum s = 0#16 ∧ 1 ≤ s.size ∧ s.size ≤ 1000) h0 h2 hs ht
    generalize nthT [s, t] i = v at hq
    obtain ⟨q1, q2, q3⟩ := hq
    obtain ⟨e1, e2, e3⟩ := mod8 ⟨q2, q3⟩ hy.1 hy.2
    rw [stb_len, e1]
    obtain ⟨a, hae⟩ := Int.eq_ofNat_of_zero_le e2
    rw [hae]
    have hb := burst_end (L := v.size) (at0 := a) q3 (by omega) y.1 y.2 (stb_byt v) (stb_len v) q1
    have hy' : ((a : Int), y) = ((a : Int), y.1, y.2) := rfl
    rw [hy']
    obtain ⟨g1, g2, g3, W, g4, g5, _⟩ := hb
    rw [pReadIn_eq b hl, pReadOut_eq b hl]
    generalize G6_13 ((a : Int), y.1, y.2) (stb v, false, (0 : Int)) = z at g1 g2 g3 g4 g5
    have hf : (z.2.1 && (((readIn b (bts z.1)).2 == (0 : Int)) || ((readOut b (bts z.1)).2 == (0 : Int)))) = false := by
      cases hc : z.2.1 with
      | false => rfl
      | true =>
        have hw := g5 hc
        have hsum : sum (bts z.1) ≠ 0#16 := by
          unfold sum
          rw [stb_bts _ g1, g4]
          exact fun h => hw (it_ne _ h)
        have h3 := readIn_sum (b := b) hsum
        have h4 := readOut_sum (b := b) hsum
        simp [h3, h4]
    rw [hf]
    simp only [cond_false]
    rw [wrap_i64_of (by omega) (by omega)]
    omega
  · rw [decide_eq_false h2]
    simp
theorem law_bursts (x : Int × InT × Int × Int) (h : InR ct6.p x) : F6 x = true := by
  obtain ⟨n, x, y⟩ := x
  have hn : 0 ≤ n ∧ n ≤ 255 := by
    have := h.1
    simp only [InR, Lit.wf, Bool.and_eq_true, decide_eq_true_eq, show IntKind.u8.min = 0 from rfl, show IntKind.u8.max = 255 from rfl] at this
    exact this
  have hy : 0 ≤ y.1 ∧ y.1 ≤ 65535 := by
    have := h.2.2.1
    simp only [InR, Lit.wf, Bool.and_eq_true, decide_eq_true_eq, show IntKind.u16.min = 0 from rfl, show IntKind.u16.max = 65535 from rfl] at this
    exact this
  have h8 := (bn hn).1
  unfold F6
  have hs := fit_size hn x
  have ht := out_size hn (((0 : Int), (0 : Int)), x.1, true, false, (0 : Int), [])
  have hr := bursts_out (bl hn) (s := (F12 (F9 n, F10 (F9 n, x))).1) (t := (F17 (F9 n, F18 (F9 n, (((0 : Int), (0 : Int)), x.1, true, false, (0 : Int), [])))).1) ⟨by rw [fit_frame hn]; exact sum_seal _, by omega, by omega⟩ ⟨by rw [out_frame hn]; exact sum_seal _, by omega, by omega⟩ y hy
  rw [hr, optR_none, sane_true]
  cases (decide (((n, x, y).2.1.2.2.length : Int) > (20 : Int)) || ((n, x, y).2.2.2 == (0 : Int))) <;> rfl
end Go.Proofs.Ytbnihoioblmgkaa.Sp
end

section
/- FrameBursts: the call of the law returns true (written by own program mkwalk.py, out of the contract and the plain law). -/
namespace Go.Proofs.Ytbnihoioblmgkaa.Sy
open Go Go.RowKit
set_option linter.unusedVariables false
set_option linter.unusedSimpArgs false
set_option maxRecDepth 100000
theorem tr_T71 {w : World} (cs : List Value) (h : E_T71 cs) : ∃ x : ty71.den, TR w (fun _ _ => False) ty71 x cs ∧ InR ty71 x := by
  obtain ⟨a0, a1, a2, a3, a4, a5, a6, a7, a8, a9, a10, rfl, w0, w5, w7, w9, w10⟩ := h
  exact ⟨((a0, a1, a2, a3, a4), (a5, a6, a7, a8), a9, a10), tr_of ⟨rfl, rfl, rfl, rfl, rfl, rfl, rfl, rfl, rfl, rfl, rfl, trivial⟩, ⟨⟨w0, trivial, trivial, trivial, trivial⟩, ⟨w5, trivial, w7, trivial⟩, w9, w10⟩⟩
theorem pre_law (x : ct6.p.den) (h : InR ct6.p x) : ∀ q, ct6.pre = some q → q x := by
  intro q hq
  cases hq
  simp only [ct6, InR, Lit.wf, Bool.and_eq_true, decide_eq_true_eq] at h
  simp only [Sp.pre6]
  try simp only [show IntKind.u8.min = 0 from rfl, show IntKind.u8.max = 255 from rfl, show IntKind.u16.min = 0 from rfl, show IntKind.u16.max = 65535 from rfl, show IntKind.u32.min = 0 from rfl, show IntKind.u32.max = 4294967295 from rfl, show IntKind.u64.min = 0 from rfl, show IntKind.u64.max = 18446744073709551615 from rfl, show IntKind.i64.min = -9223372036854775808 from rfl, show IntKind.i64.max = 9223372036854775807 from rfl] at h
  repeat' (first | exact trivial | apply And.intro)
  all_goals first | omega | (intro v hv; first | exact h.2.2.2 v hv | exact h.2.2 v hv | exact h.2 v hv | exact h.1.2 v hv | exact h.2.1.2 v hv | exact h.2.2.1.2 v hv | exact h.2.2.2.2 v hv)
theorem walk_FrameBursts (a0_0 : Int) (a1_0 : Int) (a1_1 : Int) (a1_2 : Int) (a1_3 : Int) (a1_4 : Value) (a2_0 : Int) (a2_1 : Int) (w : World) (w0_0 : (Lit.int .u8 a0_0).wf = true) (w1_0 : (Lit.int .u32 a1_0).wf = true) (w1_1 : (Lit.int .u32 a1_1).wf = true) (w1_2 : (Lit.int .i64 a1_2).wf = true) (w1_3 : (Lit.int .i64 a1_3).wf = true) (w1_4 : IsSlice w 11 E_T71 a1_4) (w2_0 : (Lit.int .u16 a2_0).wf = true) (w2_1 : (Lit.int .u16 a2_1).wf = true) :
    Calls Try.prog 6 #[.int .u8 a0_0, .agg #[.int .u32 a1_0, .int .u32 a1_1, .int .i64 a1_2, .int .i64 a1_3, a1_4], .agg #[.int .u16 a2_0, .int .u16 a2_1]] w fun e w' => e = .returned (.bool true) ∧ Below w.heap.size w w' := by
  obtain ⟨l1_4, t1_4, r1_4⟩ := slice_tr (e := ty71) rfl tr_T71 w1_4
  exact call_true ok6 (a0_0, ((a1_0, a1_1), (a1_2, a1_3), l1_4), (a2_0, a2_1)) w _ [.int .u8 a0_0, .int .u32 a1_0, .int .u32 a1_1, .int .i64 a1_2, .int .i64 a1_3, a1_4, .int .u16 a2_0, .int .u16 a2_1] trivial (pre_law _ ⟨w0_0, ⟨⟨w1_0, w1_1⟩, ⟨w1_2, w1_3⟩, r1_4⟩, ⟨w2_0, w2_1⟩⟩) ⟨_, rfl, ⟨[.int .u32 a1_0, .int .u32 a1_1, .int .i64 a1_2, .int .i64 a1_3, a1_4], _, rfl, rfl, rfl, ⟨[.int .u16 a2_0, .int .u16 a2_1], _, rfl, rfl, rfl, rfl⟩⟩⟩ (tr_of ⟨rfl, rfl, rfl, rfl, rfl, ⟨t1_4, trivial⟩, rfl, rfl, trivial⟩) (Sp.law_bursts _ ⟨w0_0, ⟨⟨w1_0, w1_1⟩, ⟨w1_2, w1_3⟩, r1_4⟩, ⟨w2_0, w2_1⟩⟩)
end Go.Proofs.Ytbnihoioblmgkaa.Sy
end

section
/- FrameBursts: for every input the call of the law returns true, and the arguments read behind the call as before. The walk stands in YtbnihoioblmgkaaFrameBurstsWalk. -/
namespace Go.Proofs.Ytbnihoioblmgkaa.frameBursts
open Go.ChangeShapes Go.WideShapes Go.ChangeAt Go.RowKit
set_option linter.unusedVariables false
theorem own : ownKnob Try.prog.godebug = none := by kernel_rfl
theorem laidOut : laidOutB Try.prog = true := by kernel_rfl
set_option maxRecDepth 100000 in
theorem lifted (os : Os) (started : os.Started) (H : Type) (enc : TypeId × Value → H) :
    ReturnsInHanded {} Try.checked os 6 .any (Rows.frameBurstsSpec.pre6 enc Try.prog Try.f6 Rows.frameBurstsRow.domain false) (Rows.frameBurstsSpec.post enc Try.prog Try.f6 false true false false) := by
  refine returnsInHanded_of_change (C := Try.checked) own started (by kernel_rfl) Try.func6
    (ChangeSpec.witness6 (enc := enc) (C := Try.checked) false ⟨#[], #[.int .u8 0, .agg #[.int .u32 0, .int .u32 0, .int .i64 0, .int .i64 0, .slice none 0 0], .agg #[.int .u16 0, .int .u16 0]], []⟩ 8 (by kernel_rfl) (by kernel_rfl) (by kernel_rfl) (by kernel_rfl)) ?_
  intro W base args ds gs before hval0 hW hcnd _
  have hval : ∀ (j : Nat) t v, Try.f6.params[j]? = some t → args[j]? = some v → Value.okWide Try.prog W .any base t v := hval0
  have hW' := hW
  obtain ⟨p, q, hA0, hV, rfl, hfz, hnd⟩ := hW
  have hA : DataW.TrodAll enc Try.prog W 0 (fun _ => true) true Try.f6.params.toList args.toList ds p := hA0
  rw [Try.params6] at hA hval
  obtain ⟨v0, vs0, d0, ds0, p0, q0, hargs, rfl, rfl, h0, r0⟩ := trodAll_cons hA
  obtain ⟨v1, vs1, d1, ds1, p1, q1, rfl, rfl, rfl, h1, r1⟩ := trodAll_cons r0
  obtain ⟨v2, vs2, d2, ds2, p2, q2, rfl, rfl, rfl, h2, r2⟩ := trodAll_cons r1
  obtain ⟨rfl, rfl, rfl⟩ := trodAll_nil r2
  obtain rfl : args = #[v0, v1, v2] := by cases args; simp_all
  obtain ⟨rfl, rfl⟩ := trodVars_none hV
  have k0 := h0
  have lt0 : ∀ x ∈ p0, x.block < W.heap.size := by obtain ⟨m, hm⟩ := k0; exact DataW.trod_lt m _ _ _ hm
  obtain ⟨b0, rfl⟩ := okWide_int Try.underlying5 (hval 0 5 v0 rfl rfl)
  obtain ⟨fuel0, hf0⟩ := h0
  obtain ⟨a0_0, e0, w0_0⟩ := open_T5 hf0
  simp only [Value.cells, List.cons.injEq, and_true, Value.int.injEq, true_and] at e0
  subst e0
  have k1 := h1
  have lt1 : ∀ x ∈ p1, x.block < W.heap.size := by obtain ⟨m, hm⟩ := k1; exact DataW.trod_lt m _ _ _ hm
  obtain ⟨c1, rfl, hsz1⟩ := okWide_struct Try.underlying33 (hval 1 33 v1 rfl rfl)
  obtain ⟨fuel1, hf1⟩ := h1
  obtain ⟨a1_0, a1_1, a1_2, a1_3, a1_4, e1, w1_0, w1_1, w1_2, w1_3, w1_4⟩ := open_T33 hf1
  have e1' : c1 = #[.int .u32 a1_0, .int .u32 a1_1, .int .i64 a1_2, .int .i64 a1_3, a1_4] := by rw [← Array.toList_inj]; exact e1
  subst e1'
  have k2 := h2
  have lt2 : ∀ x ∈ p2, x.block < W.heap.size := by obtain ⟨m, hm⟩ := k2; exact DataW.trod_lt m _ _ _ hm
  obtain ⟨c2, rfl, hsz2⟩ := okWide_array Try.underlying60 (hval 2 60 v2 rfl rfl)
  obtain ⟨fuel2, hf2⟩ := h2
  obtain ⟨a2_0, a2_1, e2, w2_0, w2_1⟩ := open_T60 hf2
  have e2' : c2 = #[.int .u16 a2_0, .int .u16 a2_1] := by rw [← Array.toList_inj]; exact e2
  subst e2'
  clear hA0 hval0
  refine (Sy.walk_FrameBursts b0 a1_0 a1_1 a1_2 a1_3 a1_4 a2_0 a2_1 W w0_0 w1_0 w1_1 w1_2 w1_3 w1_4 w2_0 w2_1).mono fun e W' ⟨he, bel⟩ => ?_
  subst he
  exact ⟨_, rfl, _, _, _, [], _, [], hW', trodAll_mk1 (shut_bool Try.underlying4 _), (trodAll_cons_mk (Below.trod laidOut (by kernel_rfl) (of_decide_eq_true (by kernel_rfl)) k0 bel lt0) (trodAll_cons_mk (Below.trod laidOut (by kernel_rfl) (of_decide_eq_true (by kernel_rfl)) k1 bel lt1) (trodAll_cons_mk (Below.trod laidOut (by kernel_rfl) (of_decide_eq_true (by kernel_rfl)) k2 bel lt2) trodAll_mk0))), rfl, bel.frame _, fun h => by cases h⟩
theorem over : Rows.frameBurstsRow.holds Try.pinned (OpenSpec.ofChange Rows.frameBurstsSpec) :=
  OpenClaim.holds_of_wide 6 Try.f6 rfl rfl rfl rfl rfl rfl rfl ⟨rfl, rfl, rfl, rfl, rfl⟩ rfl rfl rfl rfl rfl (by kernel_rfl) Try.func6 (by kernel_rfl)
    (of_decide_eq_true (by kernel_rfl)) (by unfold Func.isWrapper; first | (rw [if_pos (by decide +kernel)]; kernel_rfl) | (rw [if_neg (by decide +kernel)]; exact ⟨rfl, rfl⟩))
    (fun os started H enc _ => lifted os started H enc)
theorem proved : Rows.FrameBurstsSaid := over
#print axioms proved
end Go.Proofs.Ytbnihoioblmgkaa.frameBursts
end
