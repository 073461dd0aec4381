/- Texts as lists of bytes (own work). -/
import Derived.Test.YtabifaikklcghaaSl
namespace Go.Proofs.Ytabifaikklcghaa.Sp
open Go Sy
set_option linter.unusedVariables false
set_option linter.unusedSimpArgs false
theorem ba_ext {a b : ByteArray} (h : a.data.toList = b.data.toList) : a = b := by
  cases a; cases b; congr 1; exact Array.toList_inj.1 h
theorem bts_fold (l : List Int) : ∀ r : ByteArray, (l.foldl (fun r n => r.push (UInt8.ofNat n.toNat)) r).data.toList = r.data.toList ++ l.map (fun n => UInt8.ofNat n.toNat) := by
  induction l with
  | nil => intro r; simp
  | cons x l ih =>
    intro r
    rw [List.foldl_cons, ih]
    show (r.data.push _).toList ++ _ = _
    simp
theorem bts_data (l : List Int) : (bts l).data.toList = l.map (fun n => UInt8.ofNat n.toNat) := by
  unfold bts
  rw [bts_fold]
  rfl
theorem size_len (s : ByteArray) : s.size = s.data.toList.length := by rw [Array.length_toList]; rfl
@[simp] theorem bts_size (l : List Int) : (bts l).size = l.length := by rw [size_len, bts_data, List.length_map]
theorem strCat_data (a b : ByteArray) : (strCat a b).data.toList = a.data.toList ++ b.data.toList := by
  unfold strCat
  rw [ByteArray.data_append, Array.toList_append]
@[simp] theorem strCat_size (a b : ByteArray) : (strCat a b).size = a.size + b.size := by rw [size_len, strCat_data, List.length_append, ← size_len, ← size_len]
theorem extract_data (s : ByteArray) (a b : Nat) : (s.extract a b).data.toList = (s.data.toList.take b).drop a := by
  rw [ByteArray.data_extract, Array.toList_extract, List.extract_eq_drop_take', ]
@[simp] theorem extract_size (s : ByteArray) (a b : Nat) : (s.extract a b).size = min b s.size - a := by
  rw [size_len, extract_data, List.length_drop, List.length_take, ← size_len]
@[simp] theorem stb_len (s : ByteArray) : (stb s).length = s.size := by unfold stb; rw [List.length_map, ← size_len]
@[simp] theorem mk_size (l : List UInt8) : (ByteArray.mk l.toArray).size = l.length := by rw [size_len]
@[simp] theorem empty_size : ByteArray.empty.size = 0 := rfl
theorem stb_inj {a b : ByteArray} (h : stb a = stb b) : a = b := by
  refine ba_ext ?_
  unfold stb at h
  have : ∀ (l m : List UInt8), l.map (fun b => (b.toNat : Int)) = m.map (fun b => (b.toNat : Int)) → l = m := by
    intro l
    induction l with
    | nil => intro m h; cases m with | nil => rfl | cons => simp at h
    | cons x l ih =>
      intro m h
      cases m with
      | nil => simp at h
      | cons y m =>
        simp only [List.map_cons, List.cons.injEq] at h
        rw [ih m h.2, UInt8.toNat_inj.1 (by omega : x.toNat = y.toNat)]
  exact this _ _ h
theorem stb_cat (a b : ByteArray) : stb (strCat a b) = stb a ++ stb b := by unfold stb; rw [strCat_data, List.map_append]
theorem stb_extract (s : ByteArray) (a b : Nat) : stb (s.extract a b) = ((stb s).take b).drop a := by unfold stb; rw [extract_data, List.map_drop, List.map_take]
theorem stb_bts (l : List Int) (h : ∀ x ∈ l, 0 ≤ x ∧ x ≤ 255) : stb (bts l) = l := by
  unfold stb
  rw [bts_data, List.map_map]
  conv => rhs; rw [← List.map_id l]
  refine List.map_congr_left fun x hx => ?_
  obtain ⟨h1, h2⟩ := h x hx
  simp only [Function.comp, UInt8.toNat_ofNat', id]
  omega
theorem stb_rng (s : ByteArray) : ∀ x ∈ stb s, 0 ≤ x ∧ x ≤ 255 := by
  intro x hx
  unfold stb at hx
  obtain ⟨b, _, rfl⟩ := List.mem_map.1 hx
  have := b.toNat_lt
  omega
theorem bts_stb (s : ByteArray) : bts (stb s) = s := stb_inj (stb_bts _ (stb_rng s))
theorem tl_loop (bs : ByteArray) : ∀ (n i : Nat) (r : List UInt8), bs.size - i = n → ByteArray.toList.loop bs i r = r.reverse ++ bs.data.toList.drop i := by
  intro n
  induction n with
  | zero =>
    intro i r h
    rw [ByteArray.toList.loop, if_neg (by omega), List.drop_of_length_le (by rw [← size_len]; omega), List.append_nil]
  | succ n ih =>
    intro i r h
    have hi : i < bs.data.toList.length := by rw [← size_len]; omega
    rw [ByteArray.toList.loop, if_pos (by omega), ih (i + 1) _ (by omega), List.reverse_cons, List.append_assoc, List.drop_eq_getElem_cons hi]
    congr 1
    have : bs.get! i = bs.data.toList[i] := by
      have h2 : i < bs.data.size := by rw [Array.length_toList] at hi; exact hi
      show bs.data[i]! = _
      rw [getElem!_pos bs.data i h2, Array.getElem_toList]
    rw [this]; rfl
theorem tl_eq (bs : ByteArray) : bs.toList = bs.data.toList := by
  unfold ByteArray.toList
  rw [tl_loop bs _ 0 [] rfl]; rfl
theorem strEq_iff (a b : ByteArray) : strEq a b = true ↔ a = b := by
  unfold strEq
  rw [beq_iff_eq]
  refine ⟨fun h => ?_, fun h => by rw [h]⟩
  refine ba_ext ?_
  rw [tl_eq, tl_eq] at h
  exact h
theorem strEq_self (a : ByteArray) : strEq a a = true := (strEq_iff a a).2 rfl
theorem strEq_dec (a b : ByteArray) : strEq a b = decide (stb a = stb b) := by
  cases h : strEq a b with
  | true => rw [strEq_iff] at h; simp [h]
  | false =>
    have : ¬ a = b := fun e => by rw [(strEq_iff a b).2 e] at h; cases h
    rw [eq_comm, decide_eq_false_iff_not]
    exact fun e => this (stb_inj e)
theorem strAt_eq (s : ByteArray) (i : Int) : strAt s i = (stb s).getD i.toNat 0 := by
  unfold strAt stb
  rw [List.getD_eq_getElem?_getD, List.getElem?_map, Array.getElem?_toList, Array.getD_eq_getD_getElem?]
  cases s.data[i.toNat]? <;> rfl
theorem strAt_rng (s : ByteArray) (i : Int) : 0 ≤ strAt s i ∧ strAt s i ≤ 255 := by
  unfold strAt
  have := (s.data.getD i.toNat 0).toNat_lt
  omega
theorem strAt_nat (s : ByteArray) (i : Nat) (h : i < s.size) : strAt s (i : Int) = (stb s)[i]'(by rw [stb_len]; exact h) := by
  rw [strAt_eq, Int.toNat_natCast, List.getD_eq_getElem?_getD, List.getElem?_eq_getElem (by rw [stb_len]; exact h)]
  rfl
end Go.Proofs.Ytabifaikklcghaa.Sp
