/- Own texts joined by pk.py. -/
import Derived.Test.YtbnihoioblmgkaaJ96029b5e
import Derived.Deep.AppendSrc
import Derived.Laws.MakeOwn
import Derived.Laws.BytesString
import Derived.Lib.ConvBytes
section
/- The symbolic evaluator is sound: rows of their own (own work): append, copy, make, slices of slices. -/
namespace Go.Proofs.Ytbnihoioblmgkaa.Sy
open Go Go.RowKit
set_option linter.unusedVariables false
set_option linter.unusedSimpArgs false
section
variable {φ : Fr} {ν : Nat → Bool} {m : Map} {st : ASt} {a : Act} {w w' : World} {own : List (Nat × Bool)} {W : List Nat} {P : Program} {C : Ctx} {o : Oper} {e : Eff}
  {K : Act → World → Prop} {Q : Exit → Act → World → Prop}
theorem CR.cells {X : Nat → Nat → Prop} {c : Cell} {u : Value} (h : CR m X w c u) : u.cells = #[u] := by
  cases c with
  | lst t tl l => rcases h.1 with ⟨_, rfl⟩ | ⟨a, cap, rfl, _⟩ <;> rfl
  | box k off => obtain ⟨b, _, rfl⟩ := h; rfl
  | elem t l i off => obtain ⟨b, o, rfl, _⟩ := h; rfl
  | vref t k => obtain ⟨b, p, _, _, h2⟩ := h; rcases h2 with ⟨_, rfl⟩ | ⟨_, cap, T, rfl, _⟩ <;> rfl
  | velem t k i off => obtain ⟨b, p, _, _, rfl, _⟩ := h; rfl
  | fn f => cases f <;> (cases h; rfl)
  | clo f ks => obtain ⟨vs, rfl, _⟩ := h; rfl
  | aelem k off e len i => obtain ⟨b, _, rfl, _⟩ := h; rfl
  | _ => cases h; rfl
theorem TR.one {X : Nat → Nat → Prop} {t : Ty} {x : t.den} {vs : List Value} (h : TR w X t x vs) : ∀ u ∈ vs, u.oneCell' = true :=
  (enc_ok (m := fun _ => none) h).right fun _ _ h => CR.one h
def RowsC (w : World) {α : Type} (n : Nat) (R : α → List Value → Prop) (l : List α) (b o : Nat) : Prop :=
  ∀ i (h : i < l.length), ∃ vs : List Value, vs.length = n ∧ (∀ j, (hj : j < n) → w.cell? ⟨b, o + (i * n + j), none⟩ = some (vs.getD j undef)) ∧ R l[i] vs
theorem rows_list {α : Type} {n : Nat} {R : α → List Value → Prop} {l : List α} {b o : Nat} (hn : 0 < n) (h : RowsC w n R l b o) :
    ∃ news : List Value, news.length = l.length * n ∧ (∀ j u, news[j]? = some u → w.cell? ⟨b, o + j, none⟩ = some u) ∧ ∀ i (hi : i < l.length), R l[i] ((news.drop (i * n)).take n) := by
  let news : List Value := (List.range (l.length * n)).map fun j => (w.cell? ⟨b, o + j, none⟩).getD undef
  have hcell : ∀ j, j < l.length * n → ∃ u, w.cell? ⟨b, o + j, none⟩ = some u := by
    intro j hj
    have h1 : j / n < l.length := (Nat.div_lt_iff_lt_mul hn).2 hj
    obtain ⟨vs, _, hc, _⟩ := h (j / n) h1
    have := hc (j % n) (Nat.mod_lt _ hn)
    rw [show j / n * n + j % n = j by rw [Nat.mul_comm]; exact Nat.div_add_mod j n] at this
    exact ⟨_, this⟩
  have hget : ∀ j, news[j]? = if j < l.length * n then some ((w.cell? ⟨b, o + j, none⟩).getD undef) else none := by
    intro j
    simp only [news, List.getElem?_map]
    split
    · rename_i hj; rw [List.getElem?_range hj]; rfl
    · rename_i hj; rw [List.getElem?_eq_none (by simpa using hj)]; rfl
  refine ⟨news, by simp [news], fun j u hu => ?_, fun i hi => ?_⟩
  · rw [hget] at hu
    split at hu
    · rename_i hj
      obtain ⟨v, hv⟩ := hcell j hj
      rw [hv] at hu ⊢
      simpa using hu
    · cases hu
  · obtain ⟨vs, hl, hc, hr⟩ := h i hi
    have him : i * n + n ≤ l.length * n := by rw [← Nat.succ_mul]; exact Nat.mul_le_mul_right _ hi
    have : (news.drop (i * n)).take n = vs := by
      apply List.ext_getElem?
      intro j
      rw [chunk_get]
      split
      · rename_i hj
        rw [hget, if_pos (by omega), hc j hj]
        simp [List.getD_eq_getElem?_getD, List.getElem?_eq_getElem (show j < vs.length by omega)]
      · rw [List.getElem?_eq_none (by omega)]
    rw [this]; exact hr
theorem VecAt.rows {X : Nat → Nat → Prop} {b : Nat} {T : TypeId} {t : Ty} {l : List t.den} (h : VecAt X w b T t l) : RowsC w t.n (TR w X t) l b 0 := by
  obtain ⟨vs, cap, ⟨z, h1, _⟩, h2, h3, h4, h5⟩ := h
  intro i hi
  have him : i * t.n + t.n ≤ vs.size := by rw [h2, ← Nat.succ_mul]; exact Nat.mul_le_mul_right _ (by omega)
  refine ⟨_, by simp; omega, fun j hj => ?_, h5 i hi⟩
  rw [cell_heap h1, List.getD_eq_getElem?_getD, chunk_get, if_pos hj, Array.getElem?_toList, Nat.zero_add, Array.getElem?_eq_getElem (by omega)]
  rfl
theorem RowsC.ok {X : Nat → Nat → Prop} {α : Type} {n : Nat} {R R' : α → List Value → Prop} {l : List α} {b o : Nat} (h : RowsC w n R l b o) (hR : ∀ x vs, R x vs → R' x vs) (hX : ∀ p, o ≤ p → p < o + l.length * n → ¬ X b p) : RowsOk w X n R' l b o :=
  ⟨fun i hi => by obtain ⟨vs, h1, h2, h3⟩ := h i hi; exact ⟨vs, h1, h2, hR _ _ h3⟩, hX⟩
def Xc (φ : Fr) (m : Map) (ks : List Nat) (b q : Nat) : Prop := XA φ m b q ∧ ∀ k ∈ ks, ∀ p, p % 2 = 0 → 0 < p → m k ≠ some (b, p)
theorem keeps_same {X : Nat → Nat → Prop} : Keeps X w w := ⟨Nat.le_refl _, fun _ _ _ _ => rfl, fun _ _ => rfl, fun _ _ _ => rfl⟩
theorem Xc.less {ks : List Nat} : NoMore w (XA φ m) (Xc φ m ks) := fun _ _ _ h => h.1
theorem castL_eq {a b : Ty} {l : List a.den} {l' : List b.den} (h : castL a b l = some l') : ∃ e : a = b, l' = e ▸ l := castL_ok h
theorem unvC_ok (hs : SatM φ ν m st a w) {fr : Bool} {c c' : Cell} {v : Value} (h : unvC fr st c = some c') (hv : CR m (XA φ m) w c v) {ks : List Nat} (hk : fr = false → ∀ k ∈ vksL [c], k ∈ ks) : CR m (Xc φ m ks) w c' v := by
  have plain : c' = c → CR m (Xc φ m ks) w c' v := fun hc => hc ▸ CR.mono keeps_same Xc.less (fun _ _ _ h => h) _ _ hv
  cases c with
  | vref e k =>
    simp only [unvC] at h
    obtain ⟨b, p, hm, hp, hval⟩ := hv
    have fin : ∀ {l : List e.den}, RowsC w e.n (TR w (XA φ m) e) l b 0 → (∀ q, q < l.length * e.n → ¬ Xc φ m ks b q) → vlen p = l.length → (p = 1 → l = []) → CR m (Xc φ m ks) w (.lst e .no l) v := by
      intro l hr hx hlen h1
      refine ⟨?_, trivial⟩
      rcases hval with ⟨h2, h3⟩ | ⟨h2, cap, T, h3, h4, h5, h6⟩
      · exact .inl ⟨h1 h2, h3⟩
      · refine .inr ⟨⟨b, 0, none⟩, cap, by rw [← hlen]; exact h3, by omega, h6, fun _ => rfl, hr.ok (fun x vs h => h.mono keeps_same Xc.less _ _ _) fun q _ hq => hx q (by simpa using hq)⟩
    split at h
    · rename_i ow T e' l hbx
      cases hfr : fr with
      | true => rw [hfr] at h; cases h
      | false =>
        rw [hfr] at h
        simp only [cnd] at h
        split at h
        case h_2 => cases h
        rename_i l' hl'
        cases h
        obtain ⟨rfl, rfl⟩ := castL_eq hl'
        obtain ⟨b', p', h1, h2⟩ := hs.box k _ hbx
        rw [hm] at h1
        cases h1
        have hin : k ∈ ks := hk hfr k (by simp [vksL])
        rcases h2 with ⟨rfl, rfl⟩ | ⟨rfl, h2⟩ | ⟨_, rfl, h2, _⟩
        · exact fin (fun i hi => by simp at hi) (fun q hq => by simp at hq) (by simp [vlen]) (fun _ => rfl)
        · exact fin h2.rows (fun q _ hx => hx.2 k hin _ (by omega) (by omega) hm) (vlen_live _) (fun h => by omega)
        · exact fin h2.1 (fun q hq hx => h2.2 q (Nat.zero_le _) (by simpa using hq) hx.1) (vlen_dead _) (fun h => by omega)
    · rename_i e' l hbx
      split at h
      case h_2 => cases h
      rename_i l' hl'
      cases h
      obtain ⟨rfl, rfl⟩ := castL_eq hl'
      obtain ⟨b', p', h1, h2⟩ := hs.box k _ hbx
      rw [hm] at h1
      cases h1
      rcases h2 with ⟨rfl, rfl⟩ | ⟨rfl, h2⟩
      · exact fin (fun i hi => by simp at hi) (fun q hq => by simp at hq) (by simp [vlen]) (fun _ => rfl)
      · exact fin h2.1 (fun q hq hx => h2.2 q (Nat.zero_le _) (by simpa using hq) hx.1) (vlen_dead _) (fun h => by omega)
    · cases h
  | _ => simp only [unvC, Option.some.injEq] at h; exact plain h.symm
theorem unvL_ok (hs : SatM φ ν m st a w) {fr : Bool} {ks : List Nat} : ∀ {cs cs' : List Cell} {vs : List Value}, unvL fr st cs = some cs' → CRs m (XA φ m) w cs vs → (fr = false → ∀ k ∈ vksL cs, k ∈ ks) → CRs m (Xc φ m ks) w cs' vs
  | [], cs', vs, h, hv, hk => by simp only [unvL, Option.some.injEq] at h; subst h; match vs, hv with | [], _ => exact trivial
  | c :: cs, cs', [], h, hv, hk => hv.elim
  | c :: cs, cs', v :: vs, h, hv, hk => by
    simp only [unvL] at h
    split at h
    case h_2 => cases h
    rename_i c1 r1 h1 h2
    cases h
    refine ⟨unvC_ok hs h1 hv.1 (fun hf k hk' => hk hf k ?_), unvL_ok hs h2 hv.2 (fun hf k hk' => hk hf k ?_)⟩
    · cases c <;> simp_all [vksL]
    · cases c <;> simp_all [vksL]
theorem unvS_ok (hs : SatM φ ν m st a w) {fr : Bool} {ks : List Nat} {x y : SV} {v : Value} (h : unvS fr st x = some y) (hv : SR m (XA φ m) w x v) (hk : fr = false → ∀ k ∈ vksL x.cells, k ∈ ks) : SR m (Xc φ m ks) w y v := by
  cases x with
  | one c =>
    simp only [unvS] at h
    split at h
    case h_2 => cases h
    rename_i c' hc
    cases h
    exact unvC_ok hs hc hv hk
  | agg cs =>
    simp only [unvS] at h
    split at h
    case h_2 => cases h
    rename_i c' hc
    cases h
    obtain ⟨vs, rfl, h2⟩ := hv
    exact ⟨vs, rfl, unvL_ok hs hc h2 hk⟩
theorem unvSs_ok (hs : SatM φ ν m st a w) {fr : Bool} {ks : List Nat} : ∀ {xs ys : List SV} {vs : List Value}, unvSs fr st xs = some ys → All2 (SR m (XA φ m) w) xs vs → (fr = false → ∀ k ∈ vksS xs, k ∈ ks) → All2 (SR m (Xc φ m ks) w) ys vs
  | [], ys, vs, h, hv, hk => by simp only [unvSs, Option.some.injEq] at h; subst h; match vs, hv with | [], _ => exact trivial
  | x :: xs, ys, [], h, hv, hk => hv.elim
  | x :: xs, ys, v :: vs, h, hv, hk => by
    simp only [unvSs] at h
    split at h
    case h_2 => cases h
    rename_i c1 r1 h1 h2
    cases h
    exact ⟨unvS_ok hs h1 hv.1 (fun hf k hk' => hk hf k (by simp [vksS, app_eq, hk'])), unvSs_ok hs h2 hv.2 (fun hf k hk' => hk hf k (by simp [vksS, app_eq, hk']))⟩
theorem apSrc_spec {el : Nat} {ety : Ty} {c : Cell} {l1 : List ety.den} {j : Option Nat} {ow : Bool} (h : apSrc st el ety c = some (l1, j, ow)) :
    (j = none ∧ c = .lst ety .exact l1 ∧ ow = isNilB l1) ∨ ∃ e1 k, c = .vref e1 k ∧ j = some k ∧ e1.n = ety.n ∧ st.box k = some (.vec ow el ety l1) := by
  cases c with
  | lst e1 tl l =>
    cases tl with
    | no => cases h
    | exact =>
      simp only [apSrc] at h
      split at h
      case h_2 => cases h
      rename_i l' hl'
      cases h
      obtain ⟨e0, h2⟩ := castL_eq hl'
      subst e0
      simp only at h2
      subst h2
      exact .inl ⟨rfl, rfl, rfl⟩
  | vref e1 k =>
    simp only [apSrc] at h
    split at h
    case h_2 => cases h
    rename_i ow0 T0 e2 l hbx
    split at h
    case h_2 => cases h
    rename_i l' hl'
    obtain ⟨hc, h⟩ := cnd_some h
    obtain ⟨hc1, hc2⟩ := andd_true hc
    have hc1 := beq_eq hc1
    have hc2 := beq_eq hc2
    cases h
    obtain ⟨e0, h2⟩ := castL_eq hl'
    subst e0
    simp only at h2
    subst h2
    subst hc1
    exact .inr ⟨e1, k, rfl, rfl, hc2, hbx⟩
  | _ => cases h
theorem zeroVs_len : ∀ t : Ty, (zeroVs t).length = t.n := by
  intro t
  induction t with
  | pair a b iha ihb => simp [zeroVs, Ty.n, iha, ihb]
  | _ => rfl
theorem zero_TR {X : Nat → Nat → Prop} : ∀ t : Ty, TR w X t t.dflt (zeroVs t) := by
  intro t
  induction t with
  | pair a b iha ihb => exact ⟨_, _, rfl, iha, ihb⟩
  | sl e ih => exact ⟨_, rfl, .inl ⟨rfl, rfl⟩⟩
  | _ => exact rfl
theorem elem_info (hC : CtxOk P C) {t el : TypeId} {d de : TD} {ety : Ty} (hD : C.D t = some d) (hk : d.kind = .slice el) (hty : d.ty = .sl ety) (hDe : C.D el = some de) (hde : de.ty.n = ety.n) (hn : 1 ≤ ety.n) :
    P.underlying t = some (.slice el) ∧ ∃ i z, P.info? el = some i ∧ i.size = ety.n ∧ i.zero = some z ∧ z.cells.toList = zeroVs ety ∧ i.bytes = de.bytes ∧ InfoOk P el ety (de.agg) := by
  obtain ⟨e0, hde0, hkd, _⟩ := (hC.D t d hD).desc
  unfold kindOk at hkd
  rw [hk] at hkd
  obtain ⟨_, rfl, t', ag, hty', hinfo⟩ := hkd
  rw [hty] at hty'
  cases hty'
  have hTe := hC.D el de hDe
  obtain ⟨i, hi1, hi2, hi3⟩ := hinfo.info
  obtain ⟨j, hj1, hj2, hj3⟩ := hTe.info.info
  rw [hi1] at hj1
  cases hj1
  have hb := hC.bytes el de i hDe hi1 (by omega)
  have heq : mkV ag (zeroVs ety) = mkV de.agg (zeroVs de.ty) := by rw [hi3] at hj3; exact Option.some.inj hj3
  have hcells : (mkV ag (zeroVs ety)).cells.toList = zeroVs ety ∧ ag = de.agg := by
    cases hag : ag with
    | true =>
      refine ⟨rfl, ?_⟩
      rw [hag] at heq
      cases hda : de.agg with
      | true => rfl
      | false =>
        rw [hda] at heq
        have h1 := hTe.one hda
        have hz := zero_ok (m := fun _ => none) (X := fun _ _ => False) (w := default) de.ty
        cases hzv : zeroVs de.ty with
        | nil => have := zeroVs_len de.ty; rw [hzv, h1] at this; cases this
        | cons v r =>
          rw [hzv] at heq hz
          simp only [mkV, if_true, Bool.false_eq_true, if_false, List.headD_cons] at heq
          match hzc : zeroCells de.ty, hz with
          | c :: cs, hz => have := CR.one hz.1; rw [← heq] at this; cases this
    | false =>
      rw [hag] at heq
      have hz := zero_ok (m := fun _ => none) (X := fun _ _ => False) (w := default) ety
      cases hzv : zeroVs ety with
      | nil => have := zeroVs_len ety; rw [hzv] at this; simp at this; omega
      | cons v r =>
        rw [hzv] at heq hz
        simp only [mkV, Bool.false_eq_true, if_false, List.headD_cons] at heq ⊢
        match hzc : zeroCells ety, hz with
        | c :: cs, hz =>
          have hc := hz.1.cells
          rw [hc]
          cases hda : de.agg with
          | true =>
            rw [hda] at heq
            simp only [mkV, if_true] at heq
            have := CR.one hz.1
            rw [heq] at this
            cases this
          | false =>
            have h1 := hTe.one hda
            have := zeroVs_len ety
            rw [hzv, ← hde, h1] at this
            simp at this
            subst this
            exact ⟨rfl, rfl⟩
  refine ⟨hde0, i, _, hi1, hi2, hi3, hcells.1, hb, ?_⟩
  rw [← hcells.2]; exact hinfo
def SrcAt (P : Program) (w : World) (X : Nat → Nat → Prop) (ety : Ty) (tx : TypeId) (v : Value) (l2 : List ety.den) : Prop :=
  ∃ news : List Value, Src P ety.n tx v l2.length news w ∧ news.length = l2.length * ety.n ∧ (∀ u ∈ news, u.oneCell' = true) ∧ (∀ i (hi : i < l2.length), TR w X ety l2[i] ((news.drop (i * ety.n)).take ety.n)) ∧
    (l2 = [] ∨ ∃ (ad : Addr) (cap : Nat), v = .slice (some ad) l2.length cap ∧ ∀ j u, news[j]? = some u → w.cell? (ad.add j) = some u)
structure ZSrc (P : Program) (el : TypeId) (tx : TypeId) (x : Value) (n : Nat) (news : List Value) : Prop where
  kind : ∃ k, P.underlying tx = some (.int k)
  val : ∃ k, x = .int k (n : Int)
  info : ∃ i z, P.info? el = some i ∧ i.zero = some z ∧ news = (Builtin.zeroCells z.cells n).toList ∧ n * i.bytes ≤ 281474976710656
  big : n ≤ 4611686018427387903
def SrcA (P : Program) (w : World) (X : Nat → Nat → Prop) (ety : Ty) (el tx : TypeId) (v : Value) (l2 : List ety.den) : Prop :=
  ∃ news : List Value, (Src P ety.n tx v l2.length news w ∨ ZSrc P el tx v l2.length news) ∧ news.length = l2.length * ety.n ∧ (∀ u ∈ news, u.oneCell' = true) ∧ (∀ i (hi : i < l2.length), TR w X ety l2[i] ((news.drop (i * ety.n)).take ety.n))
theorem srcA_of {w : World} {X : Nat → Nat → Prop} {ety : Ty} {el tx : TypeId} {v : Value} {l2 : List ety.den} (h : SrcAt P w X ety tx v l2) : SrcA P w X ety el tx v l2 := by
  obtain ⟨news, h1, h2, h3, h4, _⟩ := h
  exact ⟨news, .inl h1, h2, h3, h4⟩
theorem stb_length (s : ByteArray) : (stb s).length = s.size := by
  unfold stb
  rw [List.length_map, Array.length_toList]
  rfl
theorem srcA_str {w : World} {X : Nat → Nat → Prop} {el tx : TypeId} (hk : P.underlying tx = some .string) (s : ByteArray) : SrcA P w X (.int .u8) el tx (.string s) (stb s) := by
  refine ⟨byteCells s, .inl ?_, ?_, (Src.ofString w hk s).one, fun i hi => ?_⟩
  · rw [stb_length]; exact Src.ofString w hk s
  · rw [byteCells_length, stb_length]; simp [Ty.n]
  · rw [stb_length] at hi
    have hi2 : i < s.data.toList.length := by rw [Array.length_toList]; exact hi
    show List.take 1 ((byteCells s).drop (i * 1)) = [Value.int .u8 (stb s)[i]]
    have h1 : (byteCells s).drop (i * 1) = (.int .u8 (stb s)[i]) :: (byteCells s).drop (i + 1) := by
      rw [Nat.mul_one, List.drop_eq_getElem_cons (by rw [byteCells_length]; exact hi)]
      simp [byteCells, stb]
    rw [h1]; rfl
def RowV (w : World) (X : Nat → Nat → Prop) (ety : Ty) (v : Value) (l2 : List ety.den) : Prop :=
  (l2 = [] ∧ v = .slice none 0 0) ∨ (∃ (ad : Addr) (cap : Nat), v = .slice (some ad) l2.length cap ∧ (l2 ≠ [] → ad.spot = none) ∧ RowsC w ety.n (TR w X ety) l2 ad.block ad.off)
theorem apNew_rows (hs : SatM φ ν m st a w) {ety : Ty} {c : Cell} {v : Value} {l2 : List ety.den} (h : apNew st ety c = some l2) (hv : CR m (XA φ m) w c v) :
    RowV w (XA φ m) ety v l2 := by
  have main : RowV w (XA φ m) ety v l2 → RowV w (XA φ m) ety v l2 := fun h => h
  have ofLR : ∀ {X : Nat → Nat → Prop}, LR w X ety.n (TR w (XA φ m) ety) l2 v → RowV w (XA φ m) ety v l2 := by
    rintro X (h1 | ⟨ad, cap, h1, _, _, h4, h5⟩)
    · exact main (.inl h1)
    · exact main (.inr ⟨ad, cap, h1, h4, h5.1⟩)
  cases c with
  | lst e1 tl l =>
    obtain ⟨rfl, rfl⟩ := castL_eq (show castL e1 ety l = some l2 from h)
    exact ofLR hv.1
  | vref e1 k =>
    simp only [apNew, unvC] at h
    obtain ⟨b, p, hm, hp, hval⟩ := hv
    have fin : RowsC w ety.n (TR w (XA φ m) ety) l2 b 0 → vlen p = l2.length → (p = 1 → l2 = []) → RowV w (XA φ m) ety v l2 := by
      intro hr hlen h1
      rcases hval with ⟨h2, h3⟩ | ⟨h2, cap, T, h3, h4, h5, h6⟩
      · exact main (.inl ⟨h1 h2, h3⟩)
      · exact main (.inr ⟨⟨b, 0, none⟩, cap, by rw [← hlen]; exact h3, fun _ => rfl, hr⟩)
    cases hbx : st.box k with
    | none => simp [hbx] at h
    | some bx =>
      cases bx with
      | cells cs => simp [hbx] at h
      | ro cs => simp [hbx] at h
      | tok => simp [hbx] at h
      | vec ow T e' l =>
        simp only [hbx, cnd] at h
        cases hcl : castL e' e1 l with
        | none => simp [hcl] at h
        | some l1 =>
          simp only [hcl] at h
          obtain ⟨rfl, rfl⟩ := castL_eq hcl
          obtain ⟨rfl, rfl⟩ := castL_eq h
          obtain ⟨b', p', h1, h2⟩ := hs.box k _ hbx
          rw [hm] at h1
          cases h1
          rcases h2 with ⟨rfl, rfl⟩ | ⟨rfl, h2⟩ | ⟨_, rfl, h2, _⟩
          · exact fin (fun i hi => by simp at hi) (by simp [vlen]) (fun _ => rfl)
          · exact fin h2.rows (vlen_live _) (fun h => by omega)
          · exact fin h2.1 (vlen_dead _) (fun h => by omega)
      | frz e' l =>
        simp only [hbx] at h
        cases hcl : castL e' e1 l with
        | none => simp [hcl] at h
        | some l1 =>
          simp only [hcl] at h
          obtain ⟨rfl, rfl⟩ := castL_eq hcl
          obtain ⟨rfl, rfl⟩ := castL_eq h
          obtain ⟨b', p', h1, h2⟩ := hs.box k _ hbx
          rw [hm] at h1
          cases h1
          rcases h2 with ⟨rfl, rfl⟩ | ⟨rfl, h2⟩
          · exact fin (fun i hi => by simp at hi) (by simp [vlen]) (fun _ => rfl)
          · exact fin h2.1 (vlen_dead _) (fun h => by omega)
  | _ => cases h
theorem apNew_ok (hs : SatM φ ν m st a w) {ety : Ty} {c : Cell} {v : Value} {l2 : List ety.den} (h : apNew st ety c = some l2) (hv : CR m (XA φ m) w c v) (hn : 0 < ety.n) {tx e' : TypeId} (htx : P.underlying tx = some (.slice e')) :
    SrcAt P w (XA φ m) ety tx v l2 := by
  have main : (l2 = [] ∧ v = .slice none 0 0) ∨ (∃ (ad : Addr) (cap : Nat), v = .slice (some ad) l2.length cap ∧ (l2 ≠ [] → ad.spot = none) ∧ RowsC w ety.n (TR w (XA φ m) ety) l2 ad.block ad.off) →
      SrcAt P w (XA φ m) ety tx v l2 := by
    rintro (⟨rfl, rfl⟩ | ⟨ad, cap, rfl, hsp, hr⟩)
    · exact ⟨[], Src.ofNil w htx 0, by simp, (fun _ h => by cases h), (fun i hi => by simp at hi), .inl rfl⟩
    · obtain ⟨news, h1, h2, h3⟩ := rows_list hn hr
      have hone : ∀ u ∈ news, u.oneCell' = true := by
        intro u hu
        obtain ⟨j, hj, rfl⟩ := List.getElem_of_mem hu
        have hjn : j / ety.n < l2.length := (Nat.div_lt_iff_lt_mul hn).2 (by omega)
        refine (h3 (j / ety.n) hjn).one _ (List.mem_iff_getElem?.2 ⟨j % ety.n, ?_⟩)
        rw [chunk_get, if_pos (Nat.mod_lt _ hn), show j / ety.n * ety.n + j % ety.n = j by rw [Nat.mul_comm]; exact Nat.div_add_mod j ety.n, List.getElem?_eq_getElem hj]
      have hcell : ∀ j u, news[j]? = some u → w.cell? (ad.add j) = some u := ?_
      · exact ⟨news, Src.ofSlice w htx ad _ cap news h1 hcell hone, h1, hone, h3, .inr ⟨ad, cap, rfl, hcell⟩⟩
      intro j u hu
      have hne : l2 ≠ [] := by
        intro h0
        subst h0
        have := (List.getElem?_eq_some_iff.1 hu).1
        simp at h1
        subst h1
        simp at this
      obtain ⟨b, o', sp⟩ := ad
      have := hsp hne
      simp only at this
      subst this
      rw [add_none]; exact h2 j u hu
  exact main (apNew_rows hs h hv)
theorem At.newRow (h : At P C φ ν own W st o e m a w K) {k b p : Nat} {bx : Bx} {tv : TV} {v : Value} {kl : Option Nat} (hdst : o.dst = some k) (hnone : st.box k = none)
    (hed : e.dst = some (k, tv)) (heb : e.bxs = (k, some bx) :: killO kl) (hkl : ∀ j, kl = some j → ∃ ow T t l, st.box j = some (.vec ow T t l))
    (hrun : (execOp a.eval o).run P w = .ok (.value v) w') (hb : Below w.heap.size w w') (hblk : p % 2 = 0 → w.heap.size ≤ b ∧ b < w'.heap.size)
    (hbx : ∀ m', m' k = some (b, p) → MLe m m' → NoMore w (XA φ m) (XA φ m') → BoxOk m' (XA φ m') w' k bx)
    (hv : ∀ m', m' k = some (b, p) → VR m' (XA φ m') w' tv v) : o.wp P a w K Q := by
  unfold Oper.wp
  rw [hrun]
  show K (a.put o.dst v) w'
  rw [hdst]
  refine h.next _ _ ?_
  have h1 := h.sat.newKey hnone hb (fun hp => (hblk hp).1) (fun hp => (hblk hp).2) (fun m' x1 x2 x3 _ => hbx m' x1 x2 x3)
  have h2 := h1.put (h.dst k hdst).1 (h.dst k hdst).2 h.tags (hv _ (by simp))
  have hst : ∀ (kl : Option Nat), e.apply own st = { slot := ((Eff.mk none (some (k, tv)) []).apply own st).slot, box := applyB e.bxs st.box } := fun _ => by
    obtain ⟨q1, q2, q3⟩ := e
    simp only at hed
    subst hed
    rfl
  rw [hst kl, heb]
  cases kl with
  | none => simp only [killO]; rw [applyB_one]; exact ⟨_, h2⟩
  | some j =>
    obtain ⟨ow, T, t, l, hj⟩ := hkl j rfl
    have hjk : j ≠ k := fun e => by rw [e, hnone] at hj; cases hj
    have h3 := h2.dead (k := j) (bx := .tok) (bx0 := .vec ow T t l) (by show (if j = k then _ else _) = _; rw [if_neg hjk]; exact hj) (fun _ _ _ _ _ _ => trivial)
      (fun b' hb' => by
        have hb' : (if j = k then some (b, p) else m j) = some (b', 0) := hb'
        rw [if_neg hjk] at hb'
        obtain ⟨b2, p2, h4, h5⟩ := h.sat.box j _ hj
        rw [hb'] at h4
        cases h4
        rcases h5 with ⟨_, h5⟩ | ⟨h5, _⟩ | ⟨_, h5, _⟩ <;> omega)
    have hbe : applyB [(k, some bx), (j, some .tok)] st.box = fun u => if u = j then some .tok else if u = k then some bx else st.box u := by
      funext u
      simp only [applyB]
      by_cases huk : u = k
      · rw [cnd_beq_true huk, if_neg (fun e => hjk (e.symm.trans huk)), if_pos huk]
      · rw [cnd_beq_false huk]
        by_cases huj : u = j
        · rw [cnd_beq_true huj, if_pos huj]
        · rw [cnd_beq_false huj, if_neg huj, if_neg huk]
    simp only [killO]
    rw [hbe]
    exact h3
theorem At.moveRow (h : At P C φ ν own W st o e m a w K) {k j b p pd : Nat} {bx : Bx} {tv : TV} {v : Value} (hdst : o.dst = some k) (hnone : st.box k = none)
    (hed : e.dst = some (k, tv)) (heb : e.bxs = (k, some bx) :: killO (some j)) {ow : Bool} {T : TypeId} {t : Ty} {l : List t.den} (hj : st.box j = some (.vec ow T t l)) (hm : m j = some (b, p)) (hp : 0 < p)
    (hrun : (execOp a.eval o).run P w = .ok (.value v) w') (hkeep : Keeps (XA φ m) w w') (hblk : ∀ b', (p % 2 = 0 → b' ≠ b) → w'.heap[b']? = w.heap[b']?) (hsz : w'.heap.size = w.heap.size) (hw : w'.os = w.os ∧ w'.tape = w.tape ∧ w'.output = w.output)
    (hpd : pd % 2 = p % 2) (hpd0 : 0 < pd)
    (hbx : ∀ m', m' k = some (b, pd) → MLe m m' → NoMore w (XA φ m) (XA φ m') → BoxOk m' (XA φ m') w' k bx)
    (hv : ∀ m', m' k = some (b, pd) → VR m' (XA φ m') w' tv v) : o.wp P a w K Q := by
  unfold Oper.wp
  rw [hrun]
  show K (a.put o.dst v) w'
  rw [hdst]
  refine h.next _ _ ?_
  obtain ⟨m', h0, h1⟩ := h.sat.moveKey hnone hj rfl hm hp hkeep hblk hsz hw hpd hpd0 hbx
  have h2 := h1.put (h.dst k hdst).1 (h.dst k hdst).2 h.tags (hv m' h0)
  have hst : e.apply own st = { slot := ((Eff.mk none (some (k, tv)) []).apply own st).slot, box := applyB e.bxs st.box } := by
    obtain ⟨q1, q2, q3⟩ := e
    simp only at hed
    subst hed
    rfl
  have hbe : applyB [(k, some bx), (j, some .tok)] st.box = fun u => if u = k then some bx else if u = j then some .tok else st.box u := by
    funext u
    simp only [applyB]
    by_cases huk : u = k
    · rw [cnd_beq_true huk, if_pos huk]
    · rw [cnd_beq_false huk, if_neg huk]
      by_cases huj : u = j
      · rw [cnd_beq_true huj, if_pos huj]
      · rw [cnd_beq_false huj, if_neg huj]
  rw [hst, heb, show killO (some j) = [(j, some .tok)] from rfl, hbe]
  exact ⟨m', h2⟩
theorem append_nothing (t tx ty e : TypeId) (i : TypeInfo) (ht : P.underlying t = some (.slice e)) (hi : P.info? e = some i) (base : Option Addr) (sLen sCap : Nat) (hle : sLen ≤ sCap) {x : Value} (hs : Src P i.size tx x 0 [] w) :
    (Builtin.append_ #[t, tx] ty #[.slice base sLen sCap, x]).run P w = .ok (.slice base sLen sCap) w := by
  rcases hs.kind with ⟨e', hk⟩ | hk <;> cases base <;> simp [Builtin.append_, run_underlying ht, run_underlying hk, sizeOf, typeInfo, hi, hs.len, hle, hs.cells, storeCells]
theorem run_append_row (t tx ty e : TypeId) (i : TypeInfo) (ht : P.underlying t = some (.slice e)) (hi : P.info? e = some i) (g sLen sCap : Nat) (cur : Array Value) {z : Nat × Nat} (hg : w.heap[g]? = some (.cells cur e z)) (hz : FzOk z cur.size)
    {x : Value} {n : Nat} {news : List Value} (hs : Src P i.size tx x n news w) (hroom : sLen + n ≤ sCap) (hfit : sLen * i.size + news.length ≤ cur.size) :
    (Builtin.append_ #[t, tx] ty #[.slice (some ⟨g, 0, none⟩) sLen sCap, x]).run P w =
      .ok (.slice (some ⟨g, 0, none⟩) (sLen + n) sCap) (w.setRow g (cur.toList.take (sLen * i.size) ++ news ++ cur.toList.drop (sLen * i.size + news.length)).toArray) := by
  have hst := run_storeCells_row (P := P) g (sLen * i.size) e news 0 cur w hg hz (by simpa using hfit) hs.one
  simp only [Nat.add_zero] at hst
  rcases hs.kind with ⟨e', hk⟩ | hk <;> simp [Builtin.append_, run_underlying ht, run_underlying hk, sizeOf, typeInfo, hi, hs.len, hroom, hs.cells, Addr.add_lit, hst]
theorem run_asInt (k : IntKind) (n : Int) (w : World) : (asInt (.int k n)).run P w = .ok n w := by simp [asInt, asIntOf]
theorem zeroCells_nil (z : Array Value) : Builtin.zeroCells z 0 = #[] := by simp [Builtin.zeroCells]
theorem append_nothingZ (t tx ty e : TypeId) (i : TypeInfo) (ht : P.underlying t = some (.slice e)) (hi : P.info? e = some i) (base : Option Addr) (sLen sCap : Nat) (hle : sLen ≤ sCap) {x : Value} (hs : ZSrc P e tx x 0 []) :
    (Builtin.append_ #[t, tx] ty #[.slice base sLen sCap, x]).run P w = .ok (.slice base sLen sCap) w := by
  obtain ⟨⟨k, hk⟩, ⟨k2, rfl⟩, _, _⟩ := hs
  cases base <;> simp [Builtin.append_, run_underlying ht, run_underlying hk, sizeOf, typeInfo, hi, hle, storeCells, run_asInt, IntKind.wrap_i64]
theorem run_append_rowZ (t tx ty e : TypeId) (i : TypeInfo) (ht : P.underlying t = some (.slice e)) (hi : P.info? e = some i) (g sLen sCap : Nat) (cur : Array Value) {z : Nat × Nat} (hg : w.heap[g]? = some (.cells cur e z)) (hz : FzOk z cur.size)
    {x : Value} {n : Nat} {news : List Value} (hs : ZSrc P e tx x n news) (h1 : ∀ u ∈ news, u.oneCell' = true) (hn1 : 0 < n) (hsz : 0 < i.size) (hroom : sLen + n ≤ sCap) (hfit : sLen * i.size + news.length ≤ cur.size) :
    (Builtin.append_ #[t, tx] ty #[.slice (some ⟨g, 0, none⟩) sLen sCap, x]).run P w =
      .ok (.slice (some ⟨g, 0, none⟩) (sLen + n) sCap) (w.setRow g (cur.toList.take (sLen * i.size) ++ news ++ cur.toList.drop (sLen * i.size + news.length)).toArray) := by
  have hst := run_storeCells_row (P := P) g (sLen * i.size) e news 0 cur w hg hz (by simpa using hfit) h1
  simp only [Nat.add_zero] at hst
  obtain ⟨⟨k, hk⟩, ⟨k2, rfl⟩, ⟨i2, zv, hi2, hzv, rfl, hby⟩, hbig⟩ := hs
  rw [hi] at hi2; cases hi2
  have hw : IntKind.i64.wrap (n : Int) = (n : Int) := by rw [IntKind.wrap_i64]; omega
  have hb' : ¬ (281474976710656 < (n : Int) * (i.bytes : Int)) := by
    have : ((n * i.bytes : Nat) : Int) ≤ 281474976710656 := by omega
    rw [Int.natCast_mul] at this
    omega
  have hn0 : ¬ ((n : Int) < 0) := by omega
  simp [Builtin.append_, run_underlying ht, run_underlying hk, sizeOf, typeInfo, hi, hw, hb', hn0, run_asInt, zeroValue, hzv, hroom, Addr.add_lit, hst]
  intro h
  rcases Nat.mul_eq_zero.1 h with h | h <;> omega
theorem run_append_growZ (t tx ty e : TypeId) (i : TypeInfo) (z : Value) (ht : P.underlying t = some (.slice e)) (hi : P.info? e = some i) (hz : i.zero = some z) (base : Option Addr) (sLen sCap : Nat) (olds : List Value)
    (hold : (Builtin.firstCells i.size sLen (.slice base sLen sCap)).run P w.drew = .ok olds.toArray w.drew) (x : Value) (n : Nat) (news : List Value) (hs : ZSrc P e tx x n news) (hn1 : 0 < n) (hsz : 0 < i.size)
    (hg : sCap < sLen + n) (h63 : ((sLen + n : Nat) : Int) ≤ 9223372036854775807) (hfit : Builtin.nextslicecap (sLen + n) sCap * i.bytes ≤ 281474976710656) :
    (Builtin.append_ #[t, tx] ty #[.slice base sLen sCap, x]).run P w =
      .ok (.slice (some ⟨w.heap.size, 0, none⟩) (sLen + n) (grownCap w (sLen + n) sCap e))
        (w.drew.alloc (.cells ((olds ++ news).toArray ++ Builtin.zeroCells z.cells (grownCap w (sLen + n) sCap e - (sLen + n))) e)) := by
  obtain ⟨⟨k, hk⟩, ⟨k2, rfl⟩, ⟨i2, zv, hi2, hzv, rfl, hby⟩, hbig⟩ := hs
  rw [hi] at hi2; cases hi2
  rw [hz] at hzv; cases hzv
  have hn : ¬ (sLen + n ≤ sCap) := by omega
  have h63' : ¬ (9223372036854775807 < ((sLen : Int) + (n : Int))) := by omega
  have h48' : ¬ (281474976710656 < Builtin.nextslicecap (sLen + n) sCap * i.bytes) := by omega
  have hw : IntKind.i64.wrap (n : Int) = (n : Int) := by rw [IntKind.wrap_i64]; omega
  have hb' : ¬ (281474976710656 < (n : Int) * (i.bytes : Int)) := by
    have : ((n * i.bytes : Nat) : Int) ≤ 281474976710656 := by omega
    rw [Int.natCast_mul] at this
    omega
  have hn0 : ¬ ((n : Int) < 0) := by omega
  have hm0 : ¬ (n * i.size = 0) := fun h => by rcases Nat.mul_eq_zero.1 h with h | h <;> omega
  simp [Builtin.append_, run_underlying ht, run_underlying hk, sizeOf, typeInfo, zeroValue, hi, hz, hw, hb', hn0, run_asInt, hn, h63', h48', hm0, Question.forced, hold, newRow, grownCap]
  congr 2
  apply Array.ext'
  simp [List.append_assoc]
theorem append_nothingX (t tx ty e : TypeId) (i : TypeInfo) (ht : P.underlying t = some (.slice e)) (hi : P.info? e = some i) (base : Option Addr) (sLen sCap : Nat) (hle : sLen ≤ sCap) {x : Value} (hs : Src P i.size tx x 0 [] w ∨ ZSrc P e tx x 0 []) :
    (Builtin.append_ #[t, tx] ty #[.slice base sLen sCap, x]).run P w = .ok (.slice base sLen sCap) w :=
  hs.elim (fun h => append_nothing t tx ty e i ht hi base sLen sCap hle h) (fun h => append_nothingZ t tx ty e i ht hi base sLen sCap hle h)
theorem run_append_rowX (t tx ty e : TypeId) (i : TypeInfo) (ht : P.underlying t = some (.slice e)) (hi : P.info? e = some i) (g sLen sCap : Nat) (cur : Array Value) {z : Nat × Nat} (hg : w.heap[g]? = some (.cells cur e z)) (hz : FzOk z cur.size)
    {x : Value} {n : Nat} {news : List Value} (hs : Src P i.size tx x n news w ∨ ZSrc P e tx x n news) (h1 : ∀ u ∈ news, u.oneCell' = true) (hn1 : 0 < n) (hsz : 0 < i.size) (hroom : sLen + n ≤ sCap) (hfit : sLen * i.size + news.length ≤ cur.size) :
    (Builtin.append_ #[t, tx] ty #[.slice (some ⟨g, 0, none⟩) sLen sCap, x]).run P w =
      .ok (.slice (some ⟨g, 0, none⟩) (sLen + n) sCap) (w.setRow g (cur.toList.take (sLen * i.size) ++ news ++ cur.toList.drop (sLen * i.size + news.length)).toArray) :=
  hs.elim (fun h => run_append_row t tx ty e i ht hi g sLen sCap cur hg hz h hroom hfit) (fun h => run_append_rowZ t tx ty e i ht hi g sLen sCap cur hg hz h h1 hn1 hsz hroom hfit)
theorem run_append {c : Call} (hop : o.op = .call c) (hcal : c.callee = .builtin .append) {x y : Operand} {u : Value} {ts tx : TypeId} (hxy : c.args.toList = [x, y]) (hts : c.argTypes.toList = [ts, tx])
    (hrun : (Builtin.append_ #[ts, tx] o.type #[a.eval x, a.eval y]).run P w = .ok u w') : (execOp a.eval o).run P w = .ok (.value u) w' := by
  have hargs : c.args.map a.eval = #[a.eval x, a.eval y] := by apply Array.ext'; simp [hxy]
  have hat : c.argTypes = #[ts, tx] := by apply Array.ext'; simp [hts]
  simp only [execOp, hop, resolve, hcal, Sem.run_bind, Sem.run_pure, Result.andThen_ok, invoke, builtin, hargs, hat, hrun]
theorem run_copy {c : Call} (hop : o.op = .call c) (hcal : c.callee = .builtin .copy) {x y : Operand} {u : Value} {ts tx : TypeId} (hxy : c.args.toList = [x, y]) (hts : c.argTypes.toList = [ts, tx])
    (hrun : (Builtin.copy_ #[ts, tx] o.type #[a.eval x, a.eval y]).run P w = .ok u w') : (execOp a.eval o).run P w = .ok (.value u) w' := by
  have hargs : c.args.map a.eval = #[a.eval x, a.eval y] := by apply Array.ext'; simp [hxy]
  have hat : c.argTypes = #[ts, tx] := by apply Array.ext'; simp [hts]
  simp only [execOp, hop, resolve, hcal, Sem.run_bind, Sem.run_pure, Result.andThen_ok, invoke, builtin, hargs, hat, hrun]
theorem Below.drewAlloc (w : World) (ob : Obj) : Below w.heap.size w (w.drew.alloc ob) :=
  ((Below.refl _ _).drew).alloc (Nat.le_refl _) _
theorem chunk_append {α : Type} {xs ys : List α} {n i k : Nat} (hx : xs.length = k * n) : ((xs ++ ys).drop (i * n)).take n = if i < k then (xs.drop (i * n)).take n else (ys.drop ((i - k) * n)).take n := by
  apply List.ext_getElem?
  intro j
  split
  · rename_i hi
    rw [chunk_get, chunk_get]
    split
    · have := Nat.mul_le_mul_right n (show i + 1 ≤ k from hi)
      rw [Nat.succ_mul] at this
      rw [List.getElem?_append_left (by omega)]
    · rfl
  · rename_i hi
    rw [chunk_get, chunk_get]
    split
    · have h1 : k * n ≤ i * n := Nat.mul_le_mul_right n (by omega)
      rw [List.getElem?_append_right (by omega), hx]
      congr 1
      rw [Nat.mul_sub_right_distrib]
      omega
    · rfl
theorem grown_vec {X : Nat → Nat → Prop} {ety : Ty} {el : TypeId} {l1 l2 : List ety.den} {olds news rest : List Value} {cap : Nat} (ho : olds.length = l1.length * ety.n) (hn : news.length = l2.length * ety.n) (hr : rest.length = (cap - (l1.length + l2.length)) * ety.n) (hcap : l1.length + l2.length ≤ cap) (hmax : cap ≤ maxLen)
    (h1 : ∀ i (h : i < l1.length), TR w X ety l1[i] ((olds.drop (i * ety.n)).take ety.n)) (h2 : ∀ i (h : i < l2.length), TR w X ety l2[i] ((news.drop (i * ety.n)).take ety.n))
    {vs : Array Value} (hvs : vs.toList = olds ++ news ++ rest) {b : Nat} (hb : RowBlk w' b vs el) (hk : Keeps X w w') {X' : Nat → Nat → Prop} (hX : NoMore w X X') : VecAt X' w' b el ety (l1 ++ l2) := by
  refine ⟨vs, cap, hb, ?_, by simpa using hcap, hmax, fun i hi => ?_⟩
  · rw [← Array.length_toList, hvs]
    simp only [List.length_append, ho, hn, hr, ← Nat.add_mul]
    congr 1; omega
  · simp only [List.length_append] at hi
    have e1 : ((vs.toList.drop (i * ety.n)).take ety.n) = if i < l1.length then (olds.drop (i * ety.n)).take ety.n else (news.drop ((i - l1.length) * ety.n)).take ety.n := by
      rw [hvs, List.append_assoc, chunk_append ho]
      split
      · rfl
      · rw [chunk_append hn, if_pos (by omega)]
    rw [e1]
    by_cases hlt : i < l1.length
    · rw [if_pos hlt, List.getElem_append_left hlt]
      exact (h1 i hlt).mono hk hX _ _ _
    · rw [if_neg hlt, List.getElem_append_right (by omega)]
      exact (h2 _ (by omega)).mono hk hX _ _ _
end
end Go.Proofs.Ytbnihoioblmgkaa.Sy
end

section
/- The symbolic evaluator is sound: append, copy, make, slices of slices (own work). -/
namespace Go.Proofs.Ytbnihoioblmgkaa.Sy
open Go Go.RowKit
set_option linter.unusedVariables false
set_option linter.unusedSimpArgs false
section
variable {φ : Fr} {ν : Nat → Bool} {m : Map} {st : ASt} {a : Act} {w w' : World} {own : List (Nat × Bool)} {W : List Nat} {P : Program} {C : Ctx} {o : Oper} {e : Eff}
  {K : Act → World → Prop} {Q : Exit → Act → World → Prop}
theorem rep_chunk {α : Type} {z : List α} : ∀ {n i : Nat}, i < n → (((List.replicate n z).flatten.drop (i * z.length)).take z.length) = z
  | 0, i, h => by omega
  | n + 1, 0, h => by simp [List.replicate_succ]
  | n + 1, i + 1, h => by
    rw [List.replicate_succ, List.flatten_cons, show (i + 1) * z.length = z.length + i * z.length by rw [Nat.succ_mul]; omega, ← List.drop_drop, List.drop_left]
    exact rep_chunk (by omega)
theorem append_new {ts tx ty el : TypeId} {ety : Ty} {i : TypeInfo} {z : Value} {l1 l2 : List ety.den} (ht : P.underlying ts = some (.slice el)) (hi : P.info? el = some i) (hz : i.zero = some z) (hisz : i.size = ety.n) (hzc : z.cells.toList = zeroVs ety)
    {base : Option Addr} {sCap : Nat} {olds : List Value} (hold : (Builtin.firstCells i.size l1.length (.slice base l1.length sCap)).run P w.drew = .ok olds.toArray w.drew) (hol : olds.length = l1.length * ety.n)
    {X : Nat → Nat → Prop} (ho : ∀ i (h : i < l1.length), TR w X ety l1[i] ((olds.drop (i * ety.n)).take ety.n)) {v2 : Value} (hs : SrcA P w X ety el tx v2 l2) (hne : l2 ≠ []) (hn : 1 ≤ ety.n) (hg : sCap < l1.length + l2.length)
    (hby : (l1.length + l2.length) * i.bytes ≤ 140737488355328) (hlen : l1.length + l2.length ≤ 4611686018427387903) :
    ∃ w' cap, (Builtin.append_ #[ts, tx] ty #[.slice base l1.length sCap, v2]).run P w = .ok (.slice (some ⟨w.heap.size, 0, none⟩) (l1.length + l2.length) cap) w' ∧ Below w.heap.size w w' ∧ w.heap.size < w'.heap.size ∧ l1.length + l2.length ≤ cap ∧ cap ≤ maxLen ∧
      w'.shape? w.heap.size = some (el, cap * ety.n) ∧ ∀ X', NoMore w X X' → VecAt X' w' w.heap.size el ety (l1 ++ l2) := by
  obtain ⟨news, h1, h2, h3, h4⟩ := hs
  rw [← hisz] at h1
  have hrun := h1.elim (fun h1 => run_append_grow_src (P := P) w ts tx ty el i z ht hi hz base l1.length sCap olds hold v2 l2.length news h1 hg (by omega) (growslice_fits hg hby)) (fun h1 => run_append_growZ (P := P) (w := w) ts tx ty el i z ht hi hz base l1.length sCap olds hold v2 l2.length news h1 (List.length_pos_iff.2 hne) (by omega) hg (by omega) (growslice_fits hg hby))
  have hcap := grownCap_ge w (l1.length + l2.length) sCap el
  have hmax := grownCap_le_maxLen w (l1.length + l2.length) sCap el (by unfold maxLen; omega)
  let cap := grownCap w (l1.length + l2.length) sCap el
  let vs : Array Value := (olds ++ news).toArray ++ Builtin.zeroCells z.cells (cap - (l1.length + l2.length))
  have hb : Below w.heap.size w (w.drew.alloc (.cells vs el)) := Below.drewAlloc w _
  have hnew : (w.drew.alloc (.cells vs el)).heap[w.heap.size]? = some (.cells vs el) := by
    unfold World.alloc; show (w.heap.push _)[w.heap.size]? = _; simp
  have hzs : z.cells.size = ety.n := by rw [← Array.length_toList, hzc, zeroVs_len]
  have hvl : vs.toList = olds ++ news ++ (Builtin.zeroCells z.cells (cap - (l1.length + l2.length))).toList := by simp [vs]
  have hrl : (Builtin.zeroCells z.cells (cap - (l1.length + l2.length))).toList.length = (cap - (l1.length + l2.length)) * ety.n := by rw [Array.length_toList, size_zeroCells, hzs]
  have hvec : ∀ X', NoMore w X X' → VecAt X' (w.drew.alloc (.cells vs el)) w.heap.size el ety (l1 ++ l2) := fun X' hX =>
    grown_vec hol h2 hrl hcap hmax ho h4 hvl ⟨(0, 0), hnew, .inl rfl⟩ (keeps_of_below hb) hX
  refine ⟨_, cap, hrun, hb, by simp, hcap, hmax, ?_, hvec⟩
  obtain ⟨vs0, cap0, h5, h6, _⟩ := hvec _ noMore_refl
  unfold World.shape?
  rw [hnew]
  have hsz : vs.size = cap * ety.n := by
    rw [← Array.length_toList, hvl]
    simp only [List.length_append, hol, h2, hrl, ← Nat.add_mul]
    congr 1; omega
  simp [hsz]
theorem firstCells_row {b n cap size : Nat} {olds : List Value} (hl : olds.length = n * size) (h : ∀ j u, olds[j]? = some u → w.cell? ⟨b, 0 + j, none⟩ = some u) : (Builtin.firstCells size n (.slice (some ⟨b, 0, none⟩) n cap)).run P w.drew = .ok olds.toArray w.drew :=
  run_firstCells_some w.drew size n ⟨b, 0, none⟩ n cap olds hl (fun j u hu => by rw [add_none]; exact h j u hu)
theorem ok_append_src {c : Call} (hop : o.op = .call c) (hcal : c.callee = .builtin .append) {s x : Operand} {ts tx : TypeId} (hxy : c.args.toList = [s, x]) (hts : c.argTypes.toList = [ts, tx]) {k : Nat} (hdst : o.dst = some k)
    {d de : TD} {cs cx : Cell} {el : TypeId} {ety : Ty} {l1 l2 : List ety.den} {j : Option Nat} {ow : Bool}
    (hD : C.D ts = some d) (hnone : st.box k = none) (hs : opndc st own none s = some cs)
    (hk : d.kind = .slice el) (hty : d.ty = .sl ety) (hDe : C.D el = some de) (h1 : apSrc st el ety cs = some (l1, j, ow)) (hsrc : SrcA P w (XA φ m) ety el tx (a.eval x) l2) (hl2 : l2 = [] → newCons cx = false)
    (hn : 1 ≤ ety.n) (hde : de.ty.n = ety.n)
    {pre : Option Prop} (hbd : (l1.length + l2.length) * de.bytes ≤ 140737488355328 ∧ l1.length + l2.length ≤ 4611686018427387903)
    (he : e = ⟨pre, some (k, .v (.one (.vref ety k))),
      (k, some (.vec (orr (newCons cx) ow) el ety (l1 ++ l2))) :: killO j⟩)
    (h : At P C φ ν own W st o e m a w K) : o.wp P a w K Q := by
  obtain ⟨hb1, hb2⟩ := hbd
  obtain ⟨ht, i, z, hi1, hi2, hi3, hzc, hby, hinfo⟩ := elem_info h.ctx hD hk hty hDe hde hn
  rw [← hby] at hb1
  have hvs := opndc_ok h.sat h.tags hs
  have hed : e.dst = some (k, .v (.one (.vref ety k))) := by rw [he]
  -- a new block
  have grow : ∀ {base : Option Addr} {sCap : Nat} {olds : List Value}, a.eval s = .slice base l1.length sCap → (Builtin.firstCells i.size l1.length (.slice base l1.length sCap)).run P w.drew = .ok olds.toArray w.drew → olds.length = l1.length * ety.n →
      (∀ i (h : i < l1.length), TR w (XA φ m) ety l1[i] ((olds.drop (i * ety.n)).take ety.n)) → l2 ≠ [] → sCap < l1.length + l2.length → (∀ j', j = some j' → ∃ ow T t l, st.box j' = some (.vec ow T t l)) → o.wp P a w K Q := by
    intro base sCap olds hu hold hol hot hne hg hkl
    obtain ⟨w', cap, hrun, hbel, hlt, hcap, hmax, hsh, hvec⟩ := append_new (ty := o.type) ht hi1 hi3 hi2 hzc hold hol hot hsrc hne hn hg hb1 hb2
    have hll : (l1 ++ l2).length = l1.length + l2.length := by simp
    refine h.newRow (bx := .vec (orr (newCons cx) _) el ety (l1 ++ _)) (kl := j) (p := 2 * (l1.length + l2.length) + 2) (b := w.heap.size) hdst hnone hed (by rw [he]) hkl (run_append hop hcal hxy hts (by rw [hu]; exact hrun)) hbel (fun _ => ⟨Nat.le_refl _, hlt⟩)
      (fun m' h3 h4 h5 => ⟨_, _, h3, .inr (.inl ⟨by rw [hll], hvec _ h5⟩)⟩)
      (fun m' h3 => ⟨_, _, h3, by omega, .inr ⟨by omega, cap, el, by rw [vlen_live], hsh, by rw [vlen_live]; omega, hmax⟩⟩)
  rcases apSrc_spec h1 with ⟨rfl, rfl, rfl⟩ | ⟨e1, j0, rfl, rfl, hc2, hbx⟩
  case inl =>
      rcases hvs.2 with ⟨h3, hu⟩ | ⟨h3, b, T, hu, hsh⟩
      · subst h3
        by_cases h0 : l2 = []
        · subst h0
          obtain ⟨news, hs1, hs2, _⟩ := hsrc
          have : news = [] := List.eq_nil_of_length_eq_zero (by simpa using hs2)
          subst this
          refine h.newRow (bx := .vec (orr (newCons cx) _) el ety ([] ++ [])) (kl := none) (p := 1) (b := 0) (v := .slice none 0 0) hdst hnone hed (by rw [he]) (fun j hj => by cases hj) (run_append hop hcal hxy hts (by rw [hu]; exact append_nothingX _ _ _ _ i ht hi1 none 0 0 (Nat.le_refl _) (by rw [hi2]; exact hs1))) (Below.refl _ _) (fun hp => by omega)
            (fun m' h3 h4 h5 => ⟨_, _, h3, .inl ⟨rfl, rfl⟩⟩) (fun m' h3 => ⟨_, _, h3, by omega, .inl ⟨rfl, rfl⟩⟩)
        · have : 0 < l2.length := List.length_pos_iff.2 h0
          exact grow (base := none) (sCap := 0) (olds := []) (by simpa using hu) (run_firstCells_none _ _ _ _ _) (by simp) (fun i hi => by simp at hi) h0 (by simpa using this) (fun j hj => by cases hj)
      · -- a literal: no room behind it
        have hrows : RowsOk w (XA φ m) ety.n (TR w (XA φ m) ety) l1 b 0 := by
          rcases hvs.1 with ⟨h4, _⟩ | ⟨ad, cap, h4, _, _, _, h5⟩
          · exact absurd h4 h3
          · rw [hu] at h4; cases h4; exact h5
        by_cases h0 : l2 = []
        · have hnc := hl2 h0
          subst h0
          obtain ⟨news, hs1, hs2, _⟩ := hsrc
          have : news = [] := List.eq_nil_of_length_eq_zero (by simpa using hs2)
          subst this
          have hnil : isNilB l1 = false := by cases l1 with | nil => exact absurd rfl h3 | cons => rfl
          refine h.newRow (bx := .vec (orr (newCons cx) _) el ety (l1 ++ _)) (kl := none) (p := 2 * l1.length + 3) (b := b) hdst hnone hed (by rw [he]) (fun j hj => by cases hj) (run_append hop hcal hxy hts (by rw [hu]; exact append_nothingX _ _ _ _ i ht hi1 _ _ _ (Nat.le_refl _) (by rw [hi2]; exact hs1))) (Below.refl _ _) (fun hp => by omega)
            (fun m' h6 h4 h5 => ⟨_, _, h6, .inr (.inr ⟨by rw [hnil, hnc]; rfl, by simp, by simpa using hrows.mono keeps_same h5 (TR.mono keeps_same h5 ety), T, by simpa using hsh⟩)⟩)
            (fun m' h6 => ⟨_, _, h6, by omega, .inr ⟨by omega, l1.length, T, by rw [vlen_dead], hsh, by rw [vlen_dead]; omega, by unfold maxLen; omega⟩⟩)
        · have : 0 < l2.length := List.length_pos_iff.2 h0
          obtain ⟨olds, ho1, ho2, ho3⟩ := rows_list (by omega) hrows.1
          exact grow hu (by rw [hi2]; exact firstCells_row ho1 ho2) ho1 ho3 h0 (by omega) (fun j hj => by cases hj)
  case inr =>
    obtain ⟨b, p, hm, hp, hval⟩ := hvs
    obtain ⟨b', p', h3, h4⟩ := h.sat.box j0 _ hbx
    rw [hm] at h3
    cases h3
    have hkl : ∀ j', some j0 = some j' → ∃ ow T t l, st.box j' = some (.vec ow T t l) := fun j' hj => by cases hj; exact ⟨_, _, _, _, hbx⟩
    rcases h4 with ⟨rfl, rfl⟩ | ⟨rfl, vs, cap, ⟨z9, hh, hz9⟩, hsz, hcap, hmax, hel⟩ | ⟨rfl, rfl, hrows, T', hsh⟩
    · -- nil
      have hu : a.eval s = .slice none 0 0 := by
        rcases hval with ⟨_, hu⟩ | ⟨hne, _⟩
        · exact hu
        · exact absurd rfl hne
      by_cases h0 : l2 = []
      · subst h0
        obtain ⟨news, hs1, hs2, _⟩ := hsrc
        have : news = [] := List.eq_nil_of_length_eq_zero (by simpa using hs2)
        subst this
        refine h.moveRow (bx := .vec (orr (newCons cx) _) el ety ([] ++ [])) (v := .slice none 0 0) (pd := 1) hdst hnone hed (by rw [he]) hbx hm hp (run_append hop hcal hxy hts (by rw [hu]; exact append_nothingX _ _ _ _ i ht hi1 none 0 0 (Nat.le_refl _) (by rw [hi2]; exact hs1))) keeps_same (fun _ _ => rfl) rfl ⟨rfl, rfl, rfl⟩ rfl (by omega)
          (fun m' h3 h4 h5 => ⟨_, _, h3, .inl ⟨rfl, rfl⟩⟩) (fun m' h3 => ⟨_, _, h3, by omega, .inl ⟨rfl, rfl⟩⟩)
      · have : 0 < l2.length := List.length_pos_iff.2 h0
        exact grow (base := none) (sCap := 0) (olds := []) (by simpa using hu) (run_firstCells_none _ _ _ _ _) (by simp) (fun i hi => by simp at hi) h0 (by simpa using this) hkl
    · -- a row of its own
      obtain ⟨cap2, T2, hu, hsh, _, _⟩ : ∃ cap2 T2, a.eval s = .slice (some ⟨b, 0, none⟩) l1.length cap2 ∧ w.shape? b = some (T2, cap2 * e1.n) ∧ True ∧ True := by
        rcases hval with ⟨h5, _⟩ | ⟨_, cap2, T2, h5, h6, _⟩
        · omega
        · rw [vlen_live] at h5; exact ⟨cap2, T2, h5, h6, trivial, trivial⟩
      have hcc : cap2 = cap := by
        have : w.shape? b = some (el, vs.size) := by unfold World.shape?; rw [hh]
        rw [this] at hsh
        simp only [Option.some.injEq, Prod.mk.injEq] at hsh
        have : cap * ety.n = cap2 * ety.n := by rw [← hsz, hsh.2, hc2]
        exact (Nat.eq_of_mul_eq_mul_right (by omega) this).symm
      subst hcc
      have holds : RowsC w ety.n (TR w (XA φ m) ety) l1 b 0 := VecAt.rows ⟨vs, cap2, ⟨z9, hh, hz9⟩, hsz, hcap, hmax, hel⟩
      by_cases h0 : l2 = []
      · subst h0
        obtain ⟨news, hs1, hs2, _⟩ := hsrc
        have : news = [] := List.eq_nil_of_length_eq_zero (by simpa using hs2)
        subst this
        refine h.moveRow (bx := .vec (orr (newCons cx) _) el ety (l1 ++ _)) (pd := 2 * l1.length + 2) hdst hnone hed (by rw [he]) hbx hm hp (run_append hop hcal hxy hts (by rw [hu]; exact append_nothingX _ _ _ _ i ht hi1 _ _ _ hcap (by rw [hi2]; exact hs1))) keeps_same (fun _ _ => rfl) rfl ⟨rfl, rfl, rfl⟩ rfl (by omega)
          (fun m' h3 h4 h5 => ⟨_, _, h3, .inr (.inl ⟨by simp, by simpa using VecAt.mono keeps_same h5 rfl ⟨vs, cap2, ⟨z9, hh, hz9⟩, hsz, hcap, hmax, hel⟩⟩)⟩)
          (fun m' h3 => ⟨_, _, h3, by omega, .inr ⟨by omega, cap2, T2, by rw [vlen_live], by rw [hc2] at hsh; exact hsh, by rw [vlen_live]; omega, hmax⟩⟩)
      · have hpos : 0 < l2.length := List.length_pos_iff.2 h0
        by_cases hroom : l1.length + l2.length ≤ cap2
        · obtain ⟨news, hs1, hs2, hs3, hs4⟩ := hsrc
          have hfit : l1.length * ety.n + news.length ≤ vs.size := by rw [hs2, hsz, ← Nat.add_mul]; exact Nat.mul_le_mul_right _ hroom
          have hrun := run_append_rowX (P := P) (w := w) ts tx o.type el i ht hi1 b l1.length cap2 vs hh hz9 (by rw [hi2]; exact hs1) hs3 hpos (by rw [hi2]; exact hn) hroom (by rw [hi2]; exact hfit)
          rw [hi2] at hrun
          let vs' : Array Value := (vs.toList.take (l1.length * ety.n) ++ news ++ vs.toList.drop (l1.length * ety.n + news.length)).toArray
          have hX : ∀ q, XA φ m b q := fun q => .inr ⟨j0, _, hm, by omega⟩
          have hsize : vs'.size = vs.size := by simp [vs']; omega
          have hkeep : Keeps (XA φ m) w (w.setRow b vs') := by
            refine ⟨by simp, fun b' p hb' hx => ?_, fun b' hb' => ?_, fun b' p hb' => ?_⟩
            · have : b' ≠ b := fun e => hx (e ▸ hX p)
              unfold World.cell?; rw [setRow_other _ _ _ _ this]
            · by_cases e : b' = b
              · subst e; unfold World.shape?; rw [setRow_heap _ _ _ _ _ _ hh, hh]; simp [hsize]
              · unfold World.shape?; rw [setRow_other _ _ _ _ e]
            · by_cases e : b' = b
              · subst e; unfold World.frozen?; simp only []; rw [setRow_heap _ _ _ _ _ _ hh, hh]
              · unfold World.frozen?; simp only []; rw [setRow_other _ _ _ _ e]
          have hh' : (w.setRow b vs').heap[b]? = some (.cells vs' el z9) := setRow_heap _ _ _ _ _ _ hh
          have hml : l1.length * ety.n ≤ vs.toList.length := by show _ ≤ vs.size; rw [hsz]; exact Nat.mul_le_mul_right _ hcap
          have hvec : ∀ X', NoMore w (XA φ m) X' → VecAt X' (w.setRow b vs') b el ety (l1 ++ l2) := fun X' hX' =>
            grown_vec (cap := cap2) (olds := vs.toList.take (l1.length * ety.n)) (news := news) (rest := vs.toList.drop (l1.length * ety.n + news.length)) (by simp; omega) hs2
              (by rw [List.length_drop, Array.length_toList, hsz, hs2, ← Nat.add_mul, ← Nat.mul_sub_right_distrib]) hroom hmax
              (fun i hi => by
                have hik : i * ety.n + ety.n ≤ l1.length * ety.n := by rw [← Nat.succ_mul]; exact Nat.mul_le_mul_right _ hi
                have : ((vs.toList.take (l1.length * ety.n)).drop (i * ety.n)).take ety.n = (vs.toList.drop (i * ety.n)).take ety.n := by
                  apply List.ext_getElem?
                  intro r
                  rw [chunk_get, chunk_get]
                  split
                  · rw [List.getElem?_take, if_pos (by omega)]
                  · rfl
                rw [this]; exact hel i hi) hs4 (by simp [vs']) ⟨z9, hh', by rw [hsize]; exact hz9⟩ hkeep hX'
          refine h.moveRow (bx := .vec (orr (newCons cx) _) el ety (l1 ++ _)) (pd := 2 * (l1.length + l2.length) + 2) hdst hnone hed (by rw [he]) hbx hm hp (run_append hop hcal hxy hts (by rw [hu]; exact hrun)) hkeep (fun b' hb' => setRow_other _ _ _ _ (hb' (by omega))) (by simp) ⟨rfl, rfl, rfl⟩ (by omega) (by omega)
            (fun m' h3 h4 h5 => ⟨_, _, h3, .inr (.inl ⟨by simp, hvec _ h5⟩)⟩)
            (fun m' h3 => ⟨_, _, h3, by omega, .inr ⟨by omega, cap2, el, by rw [vlen_live], ?_, by rw [vlen_live]; omega, hmax⟩⟩)
          unfold World.shape?; rw [hh']; simp [hsize, hsz]
        · obtain ⟨olds, ho1, ho2, ho3⟩ := rows_list (by omega) holds
          exact grow hu (by rw [hi2]; exact firstCells_row ho1 ho2) ho1 ho3 h0 (by omega) hkl
    · -- a row that others read
      obtain ⟨cap2, T2, hu, hsh2⟩ : ∃ cap2 T2, a.eval s = .slice (some ⟨b, 0, none⟩) l1.length cap2 ∧ w.shape? b = some (T2, cap2 * e1.n) := by
        rcases hval with ⟨h5, _⟩ | ⟨_, cap2, T2, h5, h6, _⟩
        · omega
        · rw [vlen_dead] at h5; exact ⟨cap2, T2, h5, h6⟩
      have hcc : cap2 = l1.length := by
        rw [hsh] at hsh2
        simp only [Option.some.injEq, Prod.mk.injEq] at hsh2
        have := hsh2.2
        rw [hc2] at this
        exact (Nat.eq_of_mul_eq_mul_right (by omega) this).symm
      subst hcc
      by_cases h0 : l2 = []
      · have hnc := hl2 h0
        subst h0
        obtain ⟨news, hs1, hs2, _⟩ := hsrc
        have : news = [] := List.eq_nil_of_length_eq_zero (by simpa using hs2)
        subst this
        refine h.moveRow (bx := .vec (orr (newCons cx) _) el ety (l1 ++ _)) (pd := 2 * l1.length + 3) hdst hnone hed (by rw [he]) hbx hm hp (run_append hop hcal hxy hts (by rw [hu]; exact append_nothingX _ _ _ _ i ht hi1 _ _ _ (Nat.le_refl _) (by rw [hi2]; exact hs1))) keeps_same (fun _ _ => rfl) rfl ⟨rfl, rfl, rfl⟩ rfl (by omega)
          (fun m' h3 h4 h5 => ⟨_, _, h3, .inr (.inr ⟨by rw [hnc]; rfl, by simp, by simpa using hrows.mono keeps_same h5 (TR.mono keeps_same h5 ety), T', by simpa using hsh⟩)⟩)
          (fun m' h3 => ⟨_, _, h3, by omega, .inr ⟨by omega, l1.length, T', by rw [vlen_dead], hsh, by rw [vlen_dead]; omega, by unfold maxLen; omega⟩⟩)
      · have hpos : 0 < l2.length := List.length_pos_iff.2 h0
        obtain ⟨olds, ho1, ho2, ho3⟩ := rows_list (by omega) hrows.1
        exact grow hu (by rw [hi2]; exact firstCells_row ho1 ho2) ho1 ho3 h0 (by omega) hkl
theorem ok_append {c : Call} (hop : o.op = .call c) (hcal : c.callee = .builtin .append) {s x : Operand} {ts tx : TypeId} (hxy : c.args.toList = [s, x]) (hts : c.argTypes.toList = [ts, tx]) {k : Nat} (hdst : o.dst = some k)
    {d dx de : TD} {cs cx : Cell} {el ex : TypeId} {ety : Ty} {l1 l2 : List ety.den} {j : Option Nat} {ow : Bool}
    (hD : C.D ts = some d) (hDx : C.D tx = some dx) (hnone : st.box k = none) (hs : opndc st own none s = some cs) (hx : opndc st own none x = some cx)
    (hk : d.kind = .slice el) (hty : d.ty = .sl ety) (hkx : dx.kind = .slice ex) (hDe : C.D el = some de) (h1 : apSrc st el ety cs = some (l1, j, ow)) (h2 : apNew st ety cx = some l2)
    (htt : ts = tx) (hn : 1 ≤ ety.n) (hde : de.ty.n = ety.n)
    (he : e = ⟨some ((l1.length + l2.length) * de.bytes ≤ 140737488355328 ∧ l1.length + l2.length ≤ 4611686018427387903), some (k, .v (.one (.vref ety k))),
      (k, some (.vec (orr (newCons cx) ow) el ety (l1 ++ l2))) :: killO j⟩)
    (h : At P C φ ν own W st o e m a w K) : o.wp P a w K Q := by
  obtain ⟨ht, i, z, hi1, hi2, hi3, hzc, hby, hinfo⟩ := elem_info h.ctx hD hk hty hDe hde hn
  subst htt
  have hsrc := srcA_of (el := el) (apNew_ok h.sat h2 (opndc_ok h.sat h.tags hx) (by omega) ht)
  have hl2 : l2 = [] → newCons cx = false := by
    intro h0
    subst h0
    cases cx with
    | lst e1 tl l =>
      obtain ⟨rfl, h3⟩ := castL_eq (show castL e1 ety l = some [] from h2)
      simp only at h3
      subst h3
      cases tl <;> rfl
    | _ => rfl
  exact ok_append_src hop hcal hxy hts hdst hD hnone hs hk hty hDe h1 hsrc hl2 hn hde (h.need _ (by rw [he])) he h
theorem zrow_chunk {X : Nat → Nat → Prop} {ety : Ty} {z : Array Value} (hz : z.toList = zeroVs ety) (hn : 0 < ety.n) {c : Nat} : ∀ i (h : i < (List.replicate c ety.dflt).length), TR w X ety (List.replicate c ety.dflt)[i] (((madeCells z (c * ety.n)).toList.drop (i * ety.n)).take ety.n) := by
  intro i hi
  have hzs : z.size = ety.n := by rw [← Array.length_toList, hz, zeroVs_len]
  have h1 : (madeCells z (c * ety.n)).toList = (List.replicate c z.toList).flatten := by
    unfold madeCells
    rw [← hzs]
    exact zero_range z (by omega) c
  simp only [List.length_replicate] at hi
  have h2 := rep_chunk (z := z.toList) hi
  rw [Array.length_toList, hzs] at h2
  rw [h1, h2, hz, List.getElem_replicate]
  exact zero_TR ety
theorem srcA_zero {X : Nat → Nat → Prop} {ety : Ty} {el tx : TypeId} {i : TypeInfo} {z : Value} {kx kv : IntKind} (hk : P.underlying tx = some (.int kx)) (hi : P.info? el = some i) (hz : i.zero = some z) (hzc : z.cells.toList = zeroVs ety) (hn : 0 < ety.n)
    {n : Int} (h0 : 0 ≤ n) (hb : n.toNat * i.bytes ≤ 281474976710656) (hm : n.toNat ≤ 4611686018427387903) : SrcA P w X ety el tx (.int kv n) (List.replicate n.toNat ety.dflt) := by
  have hzs : z.cells.size = ety.n := by rw [← Array.length_toList, hzc, zeroVs_len]
  have he : (Builtin.zeroCells z.cells n.toNat).toList = (madeCells z.cells (n.toNat * ety.n)).toList := by unfold Builtin.zeroCells madeCells; rw [hzs]
  have hl : (madeCells z.cells (n.toNat * ety.n)).toList.length = n.toNat * ety.n := by rw [Array.length_toList]; exact size_madeCells _ _
  have ht := zrow_chunk (X := X) (w := w) hzc hn (c := n.toNat)
  refine ⟨_, .inr ⟨⟨_, hk⟩, ⟨kv, by rw [List.length_replicate, Int.toNat_of_nonneg h0]⟩, ⟨i, z, hi, hz, rfl, by rw [List.length_replicate]; exact hb⟩, by rw [List.length_replicate]; exact hm⟩, ?_, ?_, ?_⟩
  · rw [List.length_replicate, he, hl]
  · rw [List.length_replicate, he]
    intro u hu
    obtain ⟨j, hj, rfl⟩ := List.getElem_of_mem hu
    have hjn : j / ety.n < (List.replicate n.toNat ety.dflt).length := by rw [List.length_replicate]; exact (Nat.div_lt_iff_lt_mul hn).2 (by omega)
    refine (ht (j / ety.n) hjn).one _ (List.mem_iff_getElem?.2 ⟨j % ety.n, ?_⟩)
    rw [chunk_get, if_pos (Nat.mod_lt _ hn), show j / ety.n * ety.n + j % ety.n = j by rw [Nat.mul_comm]; exact Nat.div_add_mod j ety.n, List.getElem?_eq_getElem hj]
  · intro k hk2
    have := ht k hk2
    rw [List.length_replicate, he]
    exact this
theorem ok_makeSlice {t : TypeId} {x y : Operand} (hop : o.op = .makeSlice t x y) (h : At P C φ ν own W st o e m a w K) : o.wp P a w K Q := by
  have he := h.ev
  simp only [evOp, hop] at he
  split at he
  case h_2 => cases he
  rename_i d k k1 n k2 c hD hdst hx hy
  split at he
  case h_2 => cases he
  rename_i el ety hk hty hnone
  split at he
  case h_2 => cases he
  rename_i de hDe
  obtain ⟨hc, he2⟩ := cnd_some he
  obtain ⟨hc1, hc2⟩ := andd_true hc
  have hn : 1 ≤ ety.n := Nat.le_of_ble_eq_true hc1
  have hde : de.ty.n = ety.n := beq_eq hc2
  simp only [Option.some.injEq] at he2
  obtain ⟨h0, h1, h2, h3⟩ := h.need _ (by rw [← he2])
  subst h1
  obtain ⟨ht, i, z, hi1, hi2, hi3, hzc, hby, hinfo⟩ := elem_info h.ctx hD hk hty hDe hde hn
  have hX : a.eval x = .int k1 n := opndc_ok h.sat h.tags hx
  have hY : a.eval y = .int k2 n := opndc_ok h.sat h.tags hy
  have hrun := run_make (P := P) w t el i z ht hi1 hi3 k1 k2 n n h0 (Int.le_refl _) (by rw [hby, Int.mul_comm]; omega) (by omega)
  rw [hi2] at hrun
  have hzs : z.cells.size = ety.n := by rw [← Array.length_toList, hzc, zeroVs_len]
  let vs := madeCells z.cells (n.toNat * ety.n)
  have hb : Below w.heap.size w (w.alloc (.cells vs el)) := (Below.refl _ _).alloc (Nat.le_refl _) _
  have hnew : (w.alloc (.cells vs el)).heap[w.heap.size]? = some (.cells vs el) := by unfold World.alloc; simp only [Array.getElem?_push_size]
  have hsz : vs.size = n.toNat * ety.n := size_madeCells _ _
  have hlen : (zrow ety n).length = n.toNat := by simp [zrow]
  refine h.newRow (kl := none) (tv := .v (.one (.vref ety k))) (bx := .vec true el ety (zrow ety n)) (p := 2 * n.toNat + 2) (b := w.heap.size) (v := .slice (some ⟨w.heap.size, 0, none⟩) n.toNat n.toNat) hdst hnone (by rw [← he2]) (by rw [← he2]; rfl) (fun j hj => by cases hj)
    (by simp only [execOp, hop, hX, hY, Sem.run_bind, hrun, Result.andThen_ok, Sem.run_pure]; rfl) hb (fun _ => ⟨Nat.le_refl _, by simp⟩)
    (fun m' h4 h5 h6 => ⟨_, _, h4, .inr (.inl ⟨by rw [hlen], vs, n.toNat, ⟨(0, 0), hnew, .inl rfl⟩, hsz, by rw [hlen]; exact Nat.le_refl _, by unfold maxLen; omega, fun i hi => zrow_chunk hzc hn i hi⟩)⟩)
    (fun m' h4 => ⟨_, _, h4, by omega, .inr ⟨by omega, n.toNat, el, by rw [vlen_live], by unfold World.shape?; rw [hnew]; simp [hsz], by rw [vlen_live]; exact Nat.le_refl _, by unfold maxLen; omega⟩⟩)
theorem run_firstCells_part {b off n k cap size : Nat} {news : List Value} (hk : k ≤ n) (hl : news.length = n * size) {ad : Addr} (h : ∀ j u, news[j]? = some u → w.cell? (ad.add j) = some u) :
    (Builtin.firstCells size k (.slice (some ad) n cap)).run P w = .ok (news.take (k * size)).toArray w :=
  run_firstCells_some w size k ad n cap (news.take (k * size)) (by rw [List.length_take, hl]; have := Nat.mul_le_mul_right size hk; omega) (fun j u hu => by
    rw [List.getElem?_take] at hu
    split at hu
    · exact h j u hu
    · cases hu)
theorem copyL_lt {α : Type} {l l2 : List α} {r : Nat} (hr : r < (copyL l l2).length) (h : r < min l2.length l.length) : (copyL l l2)[r] = l2[r]'(by omega) := by
  simp only [copyL]
  rw [List.getElem_append_left (by simp; omega), List.getElem_take]
theorem copyL_ge {α : Type} {l l2 : List α} {r : Nat} (hr : r < (copyL l l2).length) (hr' : r < l.length) (h : ¬ r < min l2.length l.length) : (copyL l l2)[r] = l[r] := by
  simp only [copyL]
  rw [List.getElem_append_right (by simp; omega), List.getElem_drop]
  congr 1
  simp
  omega
theorem ok_copy {c : Call} (hop : o.op = .call c) (hcal : c.callee = .builtin .copy) {s x : Operand} {ts tx : TypeId} (hxy : c.args.toList = [s, x]) (hts : c.argTypes.toList = [ts, tx]) {k : Nat} (hdst : o.dst = some k)
    {d dx de : TD} {cx : Cell} {el ex : TypeId} {ety e0 : Ty} {l l2 : List ety.den} {j : Nat} {T : TypeId}
    (hD : C.D ts = some d) (hDx : C.D tx = some dx) (hs : opndc st own none s = some (.vref e0 j)) (hx : opndc st own none x = some cx)
    (hk : d.kind = .slice el) (hkx : dx.kind = .slice ex) (hbx : st.box j = some (.vec true T ety l)) (hDe : C.D el = some de) (h2 : apNew st ety cx = some l2)
    (hde : de.ty.n = ety.n) (he0 : e0.n = ety.n) (hn : 1 ≤ ety.n)
    (he : e = ⟨none, some (k, .v (.one (.int .i64 (min (l2.length : Int) (l.length : Int))))), [(j, some (.vec true T ety (copyL l l2)))]⟩)
    (h : At P C φ ν own W st o e m a w K) : o.wp P a w K Q := by
  obtain ⟨d1, hd1, hkd, _⟩ := (h.ctx.D ts d hD).desc
  unfold kindOk at hkd
  rw [hk] at hkd
  obtain ⟨_, rfl, t', ag, hty', hinfo⟩ := hkd
  obtain ⟨i, hi1, hi2, hi3⟩ := hinfo.info
  obtain ⟨i', hi1', hi2', hi3'⟩ := (h.ctx.D el de hDe).info.info
  rw [hi1] at hi1'; cases hi1'
  have hisz : i.size = ety.n := hi2'.trans hde
  obtain ⟨d2, hd2, hkd2, _⟩ := (h.ctx.D tx dx hDx).desc
  unfold kindOk at hkd2
  rw [hkx] at hkd2
  obtain ⟨_, rfl, _⟩ := hkd2
  obtain ⟨news, hs1, hs2, hs3, hs4, hs5⟩ := apNew_ok h.sat h2 (opndc_ok h.sat h.tags hx) (by omega) hd2
  obtain ⟨b, p, hm, hp, hval⟩ := opndc_ok h.sat h.tags hs
  obtain ⟨b', p', h3, h4⟩ := h.sat.box j _ hbx
  rw [hm] at h3
  cases h3
  obtain ⟨k0, hkd⟩ : ∃ k0, k0 = min l2.length l.length := ⟨_, rfl⟩
  have hk0 : (min (l2.length : Int) (l.length : Int)) = (k0 : Int) := by omega
  have hsz : (sizeOf el).run P w = .ok ety.n w := by simp [sizeOf, typeInfo, hi1, hisz]
  -- the cells that are copied
  have hfirst : (Builtin.firstCells ety.n k0 (a.eval x)).run P w = .ok (news.take (k0 * ety.n)).toArray w := by
    rcases hs5 with h0 | ⟨ad, cap, hu, hcell⟩
    · subst h0
      have hnl : news = [] := List.eq_nil_of_length_eq_zero (by simpa using hs2)
      subst hnl
      have : k0 = 0 := by simp [hkd]
      rw [this]
      simpa using hs1.cells
    · rw [hu]; exact run_firstCells_part (off := 0) (b := 0) (by omega) hs2 hcell
  have hbody : ∀ (base : Option Addr) (cap : Nat) (w2 : World), a.eval s = .slice base l.length cap → ((match base with | some a => storeCells a (news.take (k0 * ety.n)) | none => pure () : Sem Unit)).run P w = .ok () w2 →
      (execOp a.eval o).run P w = .ok (.value (.int .i64 (k0 : Int))) w2 := by
    intro base cap w2 hu hst
    refine run_copy hop hcal hxy hts ?_
    rw [hu]
    have hmin : Nat.min l2.length l.length = k0 := hkd.symm
    unfold Builtin.copy_
    cases base with
    | none =>
      cases hst
      simp [run_underlying hd1, hs1.len, hmin, hsz, hfirst, goInt]
    | some ad =>
      simp [run_underlying hd1, hs1.len, hmin, hsz, hfirst, goInt, hst]
  unfold Oper.wp
  rcases h4 with ⟨rfl, rfl⟩ | ⟨rfl, vs, cap, ⟨z9, hh, hz9⟩, hvsz, hcap, hmax, hel⟩ | ⟨h4, _⟩
  · -- nil
    have hu : a.eval s = .slice none 0 0 := by
      rcases hval with ⟨_, hu⟩ | ⟨hne, _⟩
      · exact hu
      · exact absurd rfl hne
    rw [hbody none 0 w hu rfl]
    show K (a.put o.dst _) w
    rw [hdst]
    refine h.next _ _ ?_
    rw [he, apply_put, applyB_one, hk0]
    have hc : copyL ([] : List ety.den) l2 = [] := by simp [copyL]
    rw [hc]
    have : (fun u => if u = j then some (Bx.vec true T ety []) else st.box u) = st.box := by
      funext u
      split
      · rename_i hu; rw [hu, hbx]
      · rfl
    rw [this]
    exact ⟨m, h.sat.put (h.dst k hdst).1 (h.dst k hdst).2 h.tags rfl⟩
  · obtain ⟨cap2, T2, hu, hsh⟩ : ∃ cap2 T2, a.eval s = .slice (some ⟨b, 0, none⟩) l.length cap2 ∧ w.shape? b = some (T2, cap2 * e0.n) := by
      rcases hval with ⟨h5, _⟩ | ⟨_, cap2, T2, h5, h6, _⟩
      · omega
      · rw [vlen_live] at h5; exact ⟨cap2, T2, h5, h6⟩
    let cp := news.take (k0 * ety.n)
    have hcl : cp.length = k0 * ety.n := by
      have : k0 * ety.n ≤ l2.length * ety.n := Nat.mul_le_mul_right _ (by omega)
      simp only [cp, List.length_take, hs2]; omega
    have hk0l : k0 * ety.n ≤ l.length * ety.n := Nat.mul_le_mul_right _ (by omega)
    have hfit : cp.length ≤ vs.size := by
      rw [hcl, hvsz]
      exact Nat.le_trans hk0l (Nat.mul_le_mul_right _ hcap)
    let vs' : Array Value := (vs.toList.take 0 ++ cp ++ vs.toList.drop (0 + cp.length)).toArray
    have hstore := run_storeCells_row (P := P) b 0 T cp 0 vs w hh hz9 (by omega) (fun u hu => hs3 u (List.mem_of_mem_take hu))
    rw [hbody (some ⟨b, 0, none⟩) cap2 (w.setRow b vs') hu (by simpa [vs'] using hstore)]
    show K (a.put o.dst _) _
    rw [hdst]
    refine h.next _ _ ?_
    have hsize : vs'.size = vs.size := by simp [vs']; omega
    have hvg : ∀ q, vs'.toList[q]? = if q < cp.length then cp[q]? else vs.toList[q]? := by
      intro q
      simp only [vs', List.toList_toArray]
      rw [splice_get _ _ _ _ (by rw [Nat.zero_add]; exact hfit)]
      simp
    have hclen : (copyL l l2).length = l.length := by simp [copyL]; omega
    have h9 := h.sat.write (bx := .vec true T ety (copyL l l2)) hbx rfl hm (by omega) hh hsize (fun hk1 hk2 => ⟨b, _, hm, .inr (.inl ⟨by rw [hclen], vs', cap, ⟨z9, hk2, by rw [hsize]; exact hz9⟩, by rw [hsize]; exact hvsz, by rw [hclen]; exact hcap, hmax, fun r hr => ?_⟩)⟩) rfl own
    · rw [he, apply_put, hk0]
      exact ⟨m, h9.put (h.dst k hdst).1 (h.dst k hdst).2 h.tags rfl⟩
    · have hr' : r < l.length := hclen ▸ hr
      have hch : (vs'.toList.drop (r * ety.n)).take ety.n = if r < k0 then (news.drop (r * ety.n)).take ety.n else (vs.toList.drop (r * ety.n)).take ety.n := by
        apply List.ext_getElem?
        intro q
        rw [chunk_get]
        by_cases hrk : r < k0
        · have := Nat.mul_le_mul_right ety.n (show r + 1 ≤ k0 from hrk)
          rw [Nat.succ_mul] at this
          rw [if_pos hrk, chunk_get]
          split
          · rw [hvg, if_pos (by omega)]
            simp only [cp]
            rw [List.getElem?_take, if_pos (by omega)]
          · rfl
        · have := Nat.mul_le_mul_right ety.n (show k0 ≤ r by omega)
          rw [if_neg hrk, chunk_get]
          split
          · rw [hvg, if_neg (by omega)]
          · rfl
      rw [hch]
      by_cases hrk : r < k0
      · rw [if_pos hrk]
        have : (copyL l l2)[r] = l2[r]'(by omega) := copyL_lt hr (by rw [← hkd]; exact hrk)
        rw [this]
        exact (hs4 r (by omega)).mono hk1 noMore_refl _ _ _
      · rw [if_neg hrk]
        have : (copyL l l2)[r] = l[r] := copyL_ge hr hr' (by rw [← hkd]; exact hrk)
        rw [this]
        exact (hel r hr').mono hk1 noMore_refl _ _ _
  · cases h4
end
end Go.Proofs.Ytbnihoioblmgkaa.Sy
end

section
/- The symbolic evaluator is sound: slices that are built, arrays, builtins, calls; every operation (own work). -/
namespace Go.Proofs.Ytbnihoioblmgkaa.Sy
open Go Go.RowKit
set_option linter.unusedVariables false
set_option linter.unusedSimpArgs false
section
variable {φ : Fr} {ν : Nat → Bool} {m : Map} {st : ASt} {a : Act} {w w' : World} {own : List (Nat × Bool)} {W : List Nat} {P : Program} {C : Ctx} {o : Oper} {e : Eff}
  {K : Act → World → Prop} {Q : Exit → Act → World → Prop}
theorem ok_buildSlice {t : TypeId} {len : Nat} {parts : Array (Nat × Operand)} (hop : o.op = .buildSlice t len parts) (h : At P C φ ν own W st o e m a w K) : o.wp P a w K Q := by
  have he := h.ev
  simp only [evOp, hop] at he
  split at he
  case h_2 => cases he
  rename_i d hD
  split at he
  case h_2 => cases he
  rename_i el ety hk hty
  split at he
  case h_2 => cases he
  rename_i cs hfill
  split at he
  case h_2 => cases he
  rename_i l de hl hDe
  obtain ⟨hc, he2⟩ := cnd_some he
  obtain ⟨hc1, hc2⟩ := andd_true hc
  obtain ⟨hc2, hc3⟩ := andd_true hc2
  have hc1 : de.ty.n = ety.n := beq_eq hc1
  have hc2 : len * ety.n ≤ 16777216 := Nat.le_of_ble_eq_true hc2
  have hc3 : 1 ≤ len * ety.n := Nat.le_of_ble_eq_true hc3
  have hn0 : 0 < ety.n := Nat.pos_of_ne_zero fun h0 => by rw [h0] at hc3; simp at hc3
  obtain ⟨e0, hde, hkd, _⟩ := (h.ctx.D t d hD).desc
  unfold kindOk at hkd
  rw [hk] at hkd
  obtain ⟨_, rfl, t', ag, hty', hinfo⟩ := hkd
  rw [hty] at hty'
  cases hty'
  have hTe := h.ctx.D el de hDe
  obtain ⟨i, hi1, hi2, hi3⟩ := hinfo.info
  obtain ⟨j, hj1, hj2, hj3⟩ := hTe.info.info
  rw [hi1] at hj1
  cases hj1
  -- the zero cells
  have hz := zeroV_cells (m := m) (w := w) (X := XA φ m) hTe.one
  have hzl : (mkV de.agg (zeroVs de.ty)).cells.size = ety.n := by have := hz.length; rw [zero_len, hc1] at this; simpa using this.symm
  have hzeq : ∀ z : Array Value, z = (mkV de.agg (zeroVs de.ty)).cells → CRs m (XA φ m) w (zeroCells ety) z.toList := by
    intro z hzz
    subst hzz
    have e1 : mkV ag (zeroVs ety) = mkV de.agg (zeroVs de.ty) := by rw [hi3] at hj3; exact Option.some.inj hj3
    rw [← e1]
    have hag : ag = false → ety.n = 1 := by
      intro hf
      rw [← e1] at hzl
      have : (mkV ag (zeroVs ety)).cells.size = 1 ∨ ∃ vs, mkV ag (zeroVs ety) = .agg vs := by
        cases hm : mkV ag (zeroVs ety) <;> first | exact .inl rfl | exact .inr ⟨_, rfl⟩
      rcases this with h1 | ⟨vs, h1⟩
      · omega
      · subst hf
        simp only [mkV, Bool.false_eq_true, if_false] at h1
        have hzz : CRs m (XA φ m) w (zeroCells ety) (zeroVs ety) := zero_ok ety
        cases hzv : zeroVs ety with
        | nil => rw [hzv] at h1; cases h1
        | cons v r =>
          rw [hzv] at h1 hzz
          simp only [List.headD_cons] at h1
          match hzc : zeroCells ety, hzz with
          | c :: cs, hzz => have := CR.one hzz.1; rw [h1] at this; cases this
    exact zeroV_cells (d := { kind := .prim, ty := ety, agg := ag, bytes := 0, eq := false }) hag
  let z := (mkV de.agg (zeroVs de.ty)).cells
  have hzc := hzeq z rfl
  have hr := zero_range z (by show 0 < (mkV de.agg (zeroVs de.ty)).cells.size; omega) len
  have hzs : z.size = ety.n := hzl
  rw [hzs] at hr
  have hz0 : CRs m (XA φ m) w (repC (zeroCells ety) len) ((Array.range (len * ety.n)).map (z[· % z.size]!)).toList := by
    rw [hzs, hr]; exact repC_ok hzc len
  obtain ⟨vs', h1, h2⟩ := fillP_ok (pl := fun x => some (x * ety.n, ety.n)) h.ctx h.sat h.tags (fun i tid off d' hp hd' => by
      simp only [Option.some.injEq, Prod.mk.injEq] at hp
      obtain ⟨rfl, rfl⟩ := hp
      rw [hDe] at hd'
      cases hd'
      rw [hc1]; rfl) parts.toList _ cs _ hfill hz0
  obtain ⟨hll, hvl, hel⟩ := decAll_ok hl h2
  have hrun : (execOp a.eval o).run P w = .ok (.value (.slice (some ⟨w.heap.size, 0, none⟩) len len)) (w.alloc (.cells vs' el)) := by
    have hze : (zeroValue el).run P w = .ok (mkV de.agg (zeroVs de.ty)) w := run_zeroValue hTe.info
    simp only [execOp, hop, Instr.buildSlice, Sem.run_bind, run_underlying hde, Result.andThen_ok, run_sizeOf hinfo]
    rw [if_neg (by omega), if_neg (by omega)]
    simp only [Sem.run_bind, Sem.run_pure, Result.andThen_ok, hze]
    have : Instr.fill (fun i => some (i * ety.n, ety.n)) ((Array.range (len * ety.n)).map (z[· % z.size]!)) (parts.map fun (i, x) => (i, a.eval x)).toList = some vs' := by
      rw [← h1]; simp
    rw [this]
    simp [newRow]
  have hbel : Below w.heap.size w (w.alloc (.cells vs' el)) := (Below.refl _ _).alloc (Nat.le_refl _) _
  have hsz : vs'.size = len * ety.n := by simpa using hvl
  refine h.out he2 hrun hbel ⟨.inr ⟨⟨w.heap.size, 0, none⟩, len, by rw [hll], by omega, ?_, fun _ => rfl, ?_, ?_⟩, .inr ⟨?_, w.heap.size, el, by rw [hll], ?_⟩⟩
  · have : len ≤ len * ety.n := Nat.le_mul_of_pos_right _ hn0
    unfold maxLen; omega
  · intro i hi
    have hnew : (w.alloc (.cells vs' el)).heap[w.heap.size]? = some (.cells vs' el) := by unfold World.alloc; simp only [Array.getElem?_push_size]
    have him : i * ety.n + ety.n ≤ len * ety.n := by rw [← Nat.succ_mul]; exact Nat.mul_le_mul_right _ (by omega)
    refine ⟨(vs'.toList.drop (i * ety.n)).take ety.n, by simp; omega, fun j hj => ?_, (hel i hi).mono (keeps_of_below hbel) noMore_refl _ _ _⟩
    rw [cell_heap hnew]
    simp only [Nat.zero_add]
    rw [List.getD_eq_getElem?_getD, List.getElem?_take, if_pos hj, List.getElem?_drop, Array.getElem?_toList, Array.getElem?_eq_getElem (by omega)]
    rfl
  · intro p _ _ hX
    exact absurd (live_lt h.sat hX) (by simp)
  · intro h0
    rw [h0] at hll
    have : len = 0 := hll.symm
    rw [this] at hc3
    simp at hc3
  · unfold World.shape?
    have hnew : (w.alloc (.cells vs' el)).heap[w.heap.size]? = some (.cells vs' el) := by unfold World.alloc; simp only [Array.getElem?_push_size]
    rw [hnew]
    simp [hsz, hll]
theorem ok_index {t : TypeId} {x i : Operand} (hop : o.op = .index t x i) (h : At P C φ ν own W st o e m a w K) : o.wp P a w K Q := by
  have he := h.ev
  simp only [evOp, hop] at he
  split at he
  case h_3 => cases he
  case h_1 =>
    rename_i d s k n hD hx hi
    split at he
    case h_2 => cases he
    rename_i hk hag hty
    obtain ⟨h0, h1⟩ := h.need' he
    have hi' : a.eval i = .int k n := opndc_ok h.sat h.tags hi
    have hu : a.eval x = .string s := opnd1_ok h.sat h.tags hx
    obtain ⟨e0, hde, _, hpl⟩ := (h.ctx.D t d hD).desc
    have hpl := hpl hag
    rw [hty] at hpl
    simp only [plainOk] at hpl
    subst hpl
    refine h.out0 he (v := .int .u8 (strAt s n)) ?_ rfl
    simp only [execOp, hop, hu, hi', Instr.index, Sem.run_bind, run_underlying hde, Result.andThen_ok, asIntOf, Sem.run_pure]
    have hlt : n.toNat < s.size := by omega
    have hsome : s[n.toNat]? = some (s[n.toNat]'hlt) := by exact getElem?_pos s n.toNat hlt
    rw [if_pos h0, hsome]
    have : ((s[n.toNat]'hlt).toNat : Int) = strAt s n := by
      unfold strAt
      congr 2
      rw [Array.getD_eq_getD_getElem?, Array.getElem?_eq_getElem (show n.toNat < s.data.size from hlt)]
      rfl
    simp [this]
  rename_i d cs k n hD hx hi
  split at he
  case h_2 => cases he
  rename_i len el hk
  split at he
  case h_2 => cases he
  rename_i de hDe
  split at he
  case h_2 => cases he
  rename_i l hl
  split at he
  case h_2 => cases he
  rename_i v hv
  have hin := h.need' he
  have hi' : a.eval i = .int k n := opndc_ok h.sat h.tags hi
  obtain ⟨us, hu, hus⟩ := opnd1_ok h.sat h.tags hx
  obtain ⟨e0, hde, hkd, _⟩ := (h.ctx.D t d hD).desc
  unfold kindOk at hkd
  rw [hk] at hkd
  obtain ⟨_, rfl⟩ := hkd
  obtain ⟨hll, hvl, hel⟩ := decAll_ok hl hus
  have hni : n.toNat < l.length := by omega
  have hnth : nth de.ty l n = l[n.toNat] := by unfold nth; rw [List.getD_eq_getElem?_getD, List.getElem?_eq_getElem hni]; rfl
  have hcs := enc_ok (m := m) (hel n.toNat hni)
  rw [← hnth] at hcs
  have him : n.toNat * de.ty.n + de.ty.n ≤ len * de.ty.n := by rw [← Nat.succ_mul]; exact Nat.mul_le_mul_right _ (by omega)
  refine h.out0 he (v := mkV de.agg ((us.toList.drop (n.toNat * de.ty.n)).take de.ty.n)) ?_ (mkSV_ok hv hcs)
  simp only [execOp, hop, hu, hi', Instr.index, Sem.run_bind, run_underlying hde, Result.andThen_ok, asIntOf, Sem.run_pure]
  rw [if_pos hin]
  simp only [Sem.run_bind, run_sizeOf (h.ctx.D el de hDe).info, Result.andThen_ok]
  rw [run_part (h.ctx.D el de hDe) (by simp at hvl; omega)]
  rfl
theorem allSV_ok (hs : SatM φ ν m st a w) (ht : holdsTags ν own) : ∀ {tys : List (Option Ty)} {xs : List Operand} {vs : List SV}, allSV st own tys xs = some vs → All2 (SR m (XA φ m) w) vs (xs.map a.eval)
  | _, [], vs, h => by simp only [allSV, Option.some.injEq] at h; subst h; trivial
  | tys, x :: xs, vs, h => by
    simp only [allSV] at h
    split at h
    case h_2 => cases h
    rename_i s l h1 h2
    simp only [Option.some.injEq] at h
    subst h
    exact ⟨opnd1_ok hs ht h1, allSV_ok hs ht h2⟩
def SRg (R : Cell → Value → Prop) : SV → Value → Prop
  | .one c, v => R c v
  | .agg cs, v => ∃ vs, v = .agg vs ∧ All2 R cs vs.toList
theorem shapes_rel {R : Cell → Value → Prop} : ∀ {sh : List (Option Nat)} {xs : List SV} {cs : List Cell} {vs : List Value}, shapes sh xs = some cs → All2 (SRg R) xs vs → ∃ cv, ShapeR sh vs cv ∧ All2 R cs cv
  | [], [], cs, vs, h, ha => by
    simp only [shapes, Option.some.injEq] at h
    subst h
    match vs, ha with | [], _ => exact ⟨[], rfl, trivial⟩
  | none :: sh, .one c :: xs, cs, vs, h, ha => by
    simp only [shapes, Option.map_eq_some_iff] at h
    obtain ⟨r, h1, rfl⟩ := h
    match vs, ha with
    | v :: vs, ha =>
      obtain ⟨cv, h2, h3⟩ := shapes_rel h1 ha.2
      exact ⟨v :: cv, ⟨cv, rfl, h2⟩, ha.1, h3⟩
  | some n :: sh, .agg ds :: xs, cs, vs, h, ha => by
    simp only [shapes] at h
    obtain ⟨hb, h⟩ := cnd_some h
    rw [Option.map_eq_some_iff] at h
    obtain ⟨r, h1, rfl⟩ := h
    match vs, ha with
    | v :: vs, ha =>
      obtain ⟨us, rfl, hus⟩ := ha.1
      obtain ⟨cv, h2, h3⟩ := shapes_rel h1 ha.2
      have hn := beq_eq hb
      rw [len'_eq] at hn
      exact ⟨us.toList ++ cv, ⟨us.toList, cv, by simp, by rw [← hn]; exact hus.length.symm, rfl, h2⟩, by rw [app_eq]; exact All2.append hus h3⟩
  | [], _ :: _, _, _, h, _ => by simp [shapes] at h
  | none :: _, [], _, _, h, _ => by simp [shapes] at h
  | some _ :: _, [], _, _, h, _ => by simp [shapes] at h
  | none :: _, .agg _ :: _, _, _, h, _ => by simp [shapes] at h
  | some _ :: _, .one _ :: _, _, _, h, _ => by simp [shapes] at h
theorem shapes_ok {X : Nat → Nat → Prop} {sh : List (Option Nat)} {xs : List SV} {cs : List Cell} {vs : List Value} (h : shapes sh xs = some cs) (ha : All2 (SR m X w) xs vs) : ∃ cv, ShapeR sh vs cv ∧ CRs m X w cs cv :=
  shapes_rel (R := CR m X w) h (ha.mono fun x v hx => by cases x <;> exact hx)
theorem unshape_ok {X : Nat → Nat → Prop} : ∀ {sh : List (Option Nat)} {xs : List SV} {cs : List Cell} {vs cv : List Value}, unshape sh cs = some xs → ShapeR sh vs cv → CRs m X w cs cv → All2 (SR m X w) xs vs
  | [], xs, [], vs, cv, h, hs, hc => by
    simp only [unshape, Option.some.injEq] at h
    subst h
    match vs, hs with | [], _ => trivial
  | none :: sh, xs, c :: cs, vs, cv, h, hs, hc => by
    simp only [unshape, Option.map_eq_some_iff] at h
    obtain ⟨r, h1, rfl⟩ := h
    match vs, hs with
    | v :: vs, hs =>
      obtain ⟨cv', rfl, h2⟩ := hs
      exact ⟨hc.1, unshape_ok h1 h2 hc.2⟩
  | some n :: sh, xs, cs, vs, cv, h, hs, hc => by
    simp only [unshape, Option.map_eq_some_iff] at h
    obtain ⟨r, h1, rfl⟩ := h
    match vs, hs with
    | v :: vs, hs =>
      obtain ⟨ds, cv', rfl, hl, rfl, h2⟩ := hs
      have h3 := All2.take n hc
      have h4 := All2.drop n hc
      rw [show (ds ++ cv').take n = ds by rw [← hl]; simp] at h3
      rw [show (ds ++ cv').drop n = cv' by rw [← hl]; simp] at h4
      exact ⟨⟨_, rfl, by simpa [CRs] using h3⟩, unshape_ok h1 h2 h4⟩
  | [], _, _ :: _, _, _, h, _, _ => by simp [unshape] at h
  | none :: _, _, [], _, _, h, _, _ => by simp [unshape] at h
def ShapeV (rsh : Rsh) (cs : List Value) (v : Value) : Prop :=
  match rsh with
    | .none => v = .tuple #[]
    | .one s => ShapeR [s] [v] cs
    | .tup ss => ∃ vs : List Value, v = .tuple vs.toArray ∧ ShapeR ss vs cs
theorem mkRes_ok {X : Nat → Nat → Prop} {rsh : Rsh} {cs : List Cell} {cv : List Value} {tv : TV} {v : Value} (h : mkRes rsh cs = some tv) (hc : CRs m X w cs cv) (h2 : ShapeV rsh cv v) : VR m X w tv v := by
  cases rsh with
  | none => simp only [mkRes, Option.some.injEq] at h; subst h; exact ⟨#[], h2, trivial⟩
  | one s =>
    simp only [mkRes] at h
    split at h
    case h_2 => cases h
    rename_i x hx
    simp only [Option.some.injEq] at h
    subst h
    exact (unshape_ok hx h2 hc).1
  | tup ss =>
    simp only [mkRes, Option.map_eq_some_iff] at h
    obtain ⟨xs, hx, rfl⟩ := h
    obtain ⟨vs, rfl, h3⟩ := h2
    exact ⟨_, rfl, by simpa using unshape_ok hx h3 hc⟩
theorem run_callF {f : FuncId} {fn : Func} (hf : P.funcs[f]? = some fn) (hn : (fn.name == "runtime.NumGoroutine") = false) (hb : fn.body.isNone = false) (args : Array Value) :
    (callFunc f args).run P w = .ok (.enter f args) w := by
  unfold callFunc
  simp only [Sem.run_bind]
  have hp : (program).run P w = .ok P w := rfl
  rw [hp]
  simp only [Result.andThen_ok, hf, hn, hb, Bool.false_eq_true, if_false]
  rfl
theorem ok_min_int (ts : Array TypeId) (t : TypeId) (k k' : IntKind) (x y : Int) : (Builtin.min_ ts t #[.int k x, .int k' y]).run P w = .ok (.int k (min x y)) w := by
  have : min x y = if y < x then y else x := by
    split <;> omega
  rw [this]
  simp [Builtin.min_, Builtin.min2]
theorem ok_max_int (ts : Array TypeId) (t : TypeId) (k k' : IntKind) (x y : Int) : (Builtin.max_ ts t #[.int k x, .int k' y]).run P w = .ok (.int k (max x y)) w := by
  have : max x y = if y > x then y else x := by
    split <;> omega
  rw [this]
  simp [Builtin.max_, Builtin.max2]
theorem ok_max_int3 (ts : Array TypeId) (t : TypeId) (k k' k'' : IntKind) (x y z : Int) : (Builtin.max_ ts t #[.int k x, .int k' y, .int k'' z]).run P w = .ok (.int k (max (max x y) z)) w := by
  have e1 : max x y = if y > x then y else x := by
    split <;> omega
  have e2 : ∀ q : Int, max q z = if z > q then z else q := by
    intro q; split <;> omega
  rw [e1, e2]
  simp [Builtin.max_, Builtin.max2]
theorem run_len_sl {ts : Array TypeId} {t ty el : TypeId} (h0 : ts[0]? = some t) (hu : P.underlying t = some (.slice el)) (b : Option Addr) (n c : Nat) :
    (Builtin.len_ ts ty #[.slice b n c]).run P w = .ok (.int .i64 (n : Int)) w := by
  unfold Builtin.len_
  simp [h0, run_underlying hu, goInt]
theorem run_len_str {ts : Array TypeId} {t ty : TypeId} (h0 : ts[0]? = some t) (hu : P.underlying t = some .string) (s : ByteArray) :
    (Builtin.len_ ts ty #[.string s]).run P w = .ok (.int .i64 (s.size : Int)) w := by
  unfold Builtin.len_
  simp [h0, run_underlying hu, goInt]
def FreshC (n0 : Nat) (T : TypeId) (X : Nat → Nat → Prop) (w : World) (c : Cell) (v : Value) : Prop :=
  match c with
  | .int k n => v = .int k n | .bool b => v = .bool b | .flt k n => v = .float k n | .str s => v = .string s | .fn f => v = fnV f
  | .lst e _ l => (v = .slice none 0 0 ∧ l = []) ∨ (∃ b cap us, v = .slice (some ⟨b, 0, none⟩) l.length cap ∧ n0 ≤ b ∧ RowBlk w b us (unB T) ∧ us.size = cap * e.n ∧ l.length ≤ cap ∧ cap ≤ maxLen ∧ RowsC w e.n (TR w X e) l b 0) ∨
      (Nat.ble big T = true ∧ ∃ b cap T', v = .slice (some ⟨b, 0, none⟩) l.length cap ∧ w.shape? b = some (T', l.length * e.n) ∧ l.length * e.n = cap * e.n ∧ l.length ≤ cap ∧ cap ≤ maxLen ∧ RowsOk w X e.n (TR w X e) l b 0)
  | _ => False
theorem enc_fresh {X : Nat → Nat → Prop} {n0 : Nat} {T : TypeId} : ∀ {t : Ty} {x : t.den} {vs : List Value}, TR w X t x vs → All2 (FreshV n0 T w) (enc t x) vs → All2 (FreshC n0 T X w) (enc t x) vs := by
  intro t
  induction t with
  | pair a b iha ihb =>
    intro x vs h hf
    obtain ⟨v1, v2, rfl, h1, h2⟩ := h
    simp only [enc, app_eq] at hf ⊢
    obtain ⟨b1, b2, h3, h4, h5⟩ := All2.split hf
    have hl1 : v1.length = b1.length := by rw [h1.len, ← h4.length, enc_len]
    obtain ⟨rfl, rfl⟩ := List.append_inj h3 hl1
    exact All2.append (iha h1 h4) (ihb h2 h5)
  | sl e ih =>
    intro l vs h hf
    obtain ⟨v, rfl, h1⟩ := h
    refine ⟨?_, trivial⟩
    rcases h1 with ⟨h2, h3⟩ | ⟨ad, cap, h2, h3, h4, h5, h6⟩
    · exact .inl ⟨h3, h2⟩
    · rcases hf.1 with h7 | ⟨b, n, cap', us, h7, h8, h9, h10, h11⟩ | ⟨hB, b, n, cap9, T', h7, h8, h9⟩
      · rw [h7] at h2; cases h2
      · rw [h2] at h7
        cases h7
        exact .inr (.inl ⟨b, _, us, h2, h8, h9, h10, h3, h4, h6.1⟩)
      · rw [h2] at h7
        cases h7
        exact .inr (.inr ⟨hB, b, _, T', h2, h8, h9, h3, h4, h6⟩)
  | unit => intro x vs h _; cases h; trivial
  | _ => intro x vs h _; cases h; exact ⟨rfl, trivial⟩
theorem FreshC.plain {n0 : Nat} {T : TypeId} {X X' : Nat → Nat → Prop} {c : Cell} {v : Value} (h : FreshC n0 T X w c v) (hn : ∀ e tl l, c ≠ .lst e tl l) : CR m X' w c v := by
  cases c with
  | lst e tl l => exact absurd rfl (hn e tl l)
  | int k n => exact h
  | bool b => exact h
  | flt k n => exact h
  | str s => exact h
  | fn f => exact h
  | _ => exact h.elim
theorem fresh_rest {n0 : Nat} {T : TypeId} {X X' : Nat → Nat → Prop} : ∀ {cs : List Cell} {vs : List Value}, All2 (FreshC n0 T X w) cs vs → lsts cs = 0 → CRs m X' w cs vs
  | [], [], _, _ => trivial
  | [], _ :: _, h, _ => h.elim
  | _ :: _, [], h, _ => h.elim
  | c :: cs, v :: vs, h, hl => by
    have hc : ∀ e tl l, c ≠ .lst e tl l := by intro e tl l he; subst he; simp [lsts] at hl
    have hr : lsts cs = 0 := by cases c <;> simp_all [lsts]
    exact ⟨h.1.plain hc, fresh_rest h.2 hr⟩
theorem fresh_split {n0 : Nat} {T : TypeId} {X : Nat → Nat → Prop} {d : Nat} : ∀ {cs : List Cell} {vs : List Value} {e : Ty} {l : List e.den}, All2 (FreshC n0 T X w) cs vs → lsts cs = 1 → lst1 cs = some ⟨e, l⟩ →
    ∃ v tl, FreshC n0 T X w (.lst e tl l) v ∧ ∀ (m' : Map) (X' : Nat → Nat → Prop), CR m' X' w (.vref e d) v → CRs m' X' w (frCells d cs) vs
  | [], vs, e, l, _, hl, _ => by simp [lsts] at hl
  | _ :: _, [], _, _, h, _, _ => h.elim
  | c :: cs, v :: vs, e, l, h, hl, h1 => by
    by_cases hc : ∃ e' tl' l', c = .lst e' tl' l'
    · obtain ⟨e', tl', l', rfl⟩ := hc
      simp only [lst1, Option.some.injEq, Sigma.mk.injEq] at h1
      obtain ⟨rfl, h1⟩ := h1
      cases h1
      have hr : lsts cs = 0 := by simpa [lsts] using hl
      exact ⟨v, tl', h.1, fun m' X' hv => ⟨hv, fresh_rest h.2 hr⟩⟩
    · have hc : ∀ e tl l, c ≠ .lst e tl l := fun e tl l he => hc ⟨e, tl, l, he⟩
      have hr : lsts cs = 1 ∧ lst1 cs = some ⟨e, l⟩ ∧ frCells d (c :: cs) = c :: frCells d cs := by
        cases c with
        | lst e' tl' l' => exact absurd rfl (hc e' tl' l')
        | _ => exact ⟨hl, h1, rfl⟩
      obtain ⟨v', tl', h2, h3⟩ := fresh_split (d := d) h.2 hr.1 hr.2.1
      refine ⟨v', tl', h2, fun m' X' hv => ?_⟩
      rw [hr.2.2]
      exact ⟨h.1.plain hc, h3 m' X' hv⟩
theorem nodupN_spec : ∀ {l : List Nat}, nodupN l = true → l.Nodup
  | [], _ => List.nodup_nil
  | x :: r, h => by
    obtain ⟨h1, h2⟩ := andd_true h
    refine List.nodup_cons.2 ⟨fun hx => ?_, nodupN_spec h2⟩
    have := nott_true h1
    rw [mem_spec.2 hx] at this
    cases this
theorem lenL_eq {α : Type} (l : List α) : lenL l = l.length := by induction l <;> simp [lenL, *]
theorem All2.valsOf {α β : Type} {R : α → β → Prop} : ∀ {mask : List Bool} {as : List α} {bs : List β}, All2 R as bs → All2 R (Sy.valsOf mask as) (Sy.valsOf mask bs)
  | [], [], [], _ => trivial
  | [], _ :: _, _ :: _, _ => trivial
  | true :: _, [], [], _ => trivial
  | false :: _, [], [], _ => trivial
  | true :: mask, _ :: _, _ :: _, h => All2.valsOf (mask := mask) h.2
  | false :: mask, _ :: _, _ :: _, h => ⟨h.1, All2.valsOf (mask := mask) h.2⟩
  | _, [], _ :: _, h => h.elim
  | _, _ :: _, [], h => h.elim
theorem All2.ptrsIn {α β : Type} {R : α → β → Prop} : ∀ {mask : List Bool} {as : List α} {bs : List β}, All2 R as bs → All2 R (Sy.ptrsIn mask as) (Sy.ptrsIn mask bs)
  | [], [], [], _ => trivial
  | [], _ :: _, _ :: _, _ => trivial
  | true :: _, [], [], _ => trivial
  | false :: _, [], [], _ => trivial
  | true :: mask, _ :: _, _ :: _, h => ⟨h.1, All2.ptrsIn (mask := mask) h.2⟩
  | false :: mask, _ :: _, _ :: _, h => All2.ptrsIn (mask := mask) h.2
  | _, [], _ :: _, h => h.elim
  | _, _ :: _, [], h => h.elim
theorem boxKs_ok {X : Nat → Nat → Prop} : ∀ {xs : List SV} {vs : List Value} {ks : List Nat}, boxKs xs = some ks → All2 (SR m X w) xs vs → All2 (fun k v => ∃ b, m k = some (b, 0) ∧ v = .pointer (some ⟨b, 0, none⟩)) ks vs
  | [], vs, ks, h, ha => by
    simp only [boxKs, Option.some.injEq] at h
    subst h
    match vs, ha with | [], _ => exact trivial
  | x :: xs, [], ks, h, ha => ha.elim
  | x :: xs, v :: vs, ks, h, ha => by
    unfold boxKs at h
    split at h
    · rename_i heq; cases heq
    · rename_i k r heq
      cases heq
      split at h
      case h_2 => cases h
      rename_i ks' hks
      simp only [Option.some.injEq] at h
      subst h
      obtain ⟨b, h1, h2⟩ := ha.1
      exact ⟨⟨b, h1, h2⟩, boxKs_ok hks ha.2⟩
    · cases h
def BoxVals (m : Map) (w : World) : List (Nat × Nat) → List Value → Prop
  | [], vs => vs = []
  | (k, n) :: r, vs => ∃ (b : Nat) (us : Array Value) (T : TypeId) (vs' : List Value), m k = some (b, 0) ∧ w.heap[b]? = some (.cells us T (0, 0)) ∧ us.size = n ∧ vs = us.toList ++ vs' ∧ BoxVals m w r vs'
theorem rdW_ok (hs : SatM φ ν m st a w) : ∀ {l : List (Nat × Nat)} {cs : List Cell}, rdW st l = some cs → ∃ vs, BoxVals m w l vs ∧ CRs m (XA φ m) w cs vs ∧ ∀ k ∈ firsts l, ∃ ds, st.box k = some (.cells ds)
  | [], cs, h => by simp only [rdW, Option.some.injEq] at h; subst h; exact ⟨[], rfl, trivial, fun k hk => by cases hk⟩
  | (k, n) :: r, cs, h => by
    simp only [rdW] at h
    split at h
    case h_2 => cases h
    rename_i ds cs' hb hr
    obtain ⟨vs', h1, h2, h3⟩ := rdW_ok hs hr
    obtain ⟨hn, h⟩ := cnd_some h
    simp only [Option.some.injEq] at h
    subst h
    obtain ⟨b, us, T, hm, hh, hus⟩ := hs.box k _ hb
    have hn := beq_eq hn
    rw [len'_eq] at hn
    refine ⟨us.toList ++ vs', ⟨b, us, T, vs', hm, hh, by rw [← hn]; simpa using hus.length.symm, rfl, h1⟩, by rw [app_eq]; exact All2.append hus h2, fun j hj => ?_⟩
    simp only [firsts, List.mem_cons] at hj
    rcases hj with rfl | hj
    · exact ⟨ds, hb⟩
    · exact h3 j hj
theorem rdR_ok (hs : SatM φ ν m st a w) : ∀ {l : List (Nat × Nat)} {cs : List Cell}, rdR st l = some cs → ∃ vs, BoxVals m w l vs ∧ CRs m (XA φ m) w cs vs
  | [], cs, h => by simp only [rdR, Option.some.injEq] at h; subst h; exact ⟨[], rfl, trivial⟩
  | (k, n) :: r, cs, h => by
    simp only [rdR] at h
    split at h
    case h_2 => cases h
    rename_i ds cs' hb hr
    obtain ⟨vs', h1, h2⟩ := rdR_ok hs hr
    obtain ⟨hn, h⟩ := cnd_some h
    simp only [Option.some.injEq] at h
    subst h
    have hb' : st.box k = some (.cells ds) ∨ st.box k = some (.ro ds) := by
      unfold rdBox at hb
      split at hb
      · rename_i hq; simp only [Option.some.injEq] at hb; subst hb; exact .inl hq
      · rename_i hq; simp only [Option.some.injEq] at hb; subst hb; exact .inr hq
      · cases hb
    have : ∃ b us T, m k = some (b, 0) ∧ w.heap[b]? = some (.cells us T (0, 0)) ∧ CRs m (XA φ m) w ds us.toList := by
      rcases hb' with hb' | hb'
      · exact hs.box k _ hb'
      · exact hs.box k _ hb'
    obtain ⟨b, us, T, hm, hh, hus⟩ := this
    have hn := beq_eq hn
    rw [len'_eq] at hn
    exact ⟨us.toList ++ vs', ⟨b, us, T, vs', hm, hh, by rw [← hn]; simpa using hus.length.symm, rfl, h1⟩, by rw [app_eq]; exact All2.append hus h2⟩
theorem ptrVals_of {X : Nat → Nat → Prop} : ∀ {ks sz : List Nat} {vs pc : List Value}, All2 (fun k v => ∃ b, m k = some (b, 0) ∧ v = .pointer (some ⟨b, 0, none⟩)) ks vs → ks.length = sz.length → BoxVals m w (zipN ks sz) pc →
    (∀ k ∈ ks, ∀ b, m k = some (b, 0) → ∀ q, X b q) → ∃ bs, All2 (fun k b => m k = some (b, 0)) ks bs ∧ PtrVals w X bs sz vs pc
  | [], [], vs, pc, ha, hl, hb, hx => by
    match vs, ha with | [], _ => exact ⟨[], trivial, hb⟩
  | [], _ :: _, vs, pc, ha, hl, hb, hx => by simp at hl
  | _ :: _, [], vs, pc, ha, hl, hb, hx => by simp at hl
  | k :: ks, n :: sz, [], pc, ha, hl, hb, hx => ha.elim
  | k :: ks, n :: sz, v :: vs, pc, ha, hl, hb, hx => by
    obtain ⟨b, us, T, vs', hm, hh, hsz, rfl, hb'⟩ := hb
    obtain ⟨b2, hm2, hv⟩ := ha.1
    rw [hm] at hm2
    cases hm2
    obtain ⟨bs, h1, h2⟩ := ptrVals_of ha.2 (by simpa using hl) hb' (fun j hj => hx j (List.mem_cons_of_mem _ hj))
    exact ⟨b :: bs, ⟨hm, h1⟩, hv, hx k (by simp) b hm, us, T, vs', hh, hsz, rfl, h2⟩
theorem boxVals_of {X : Nat → Nat → Prop} : ∀ {ks sz bs : List Nat} {vs pc : List Value}, All2 (fun k b => m k = some (b, 0)) ks bs → PtrVals w X bs sz vs pc → BoxVals m w (zipN ks sz) pc
  | [], sz, [], vs, pc, _, h => by
    cases sz with
    | nil => cases vs with | nil => exact h | cons => exact h.elim
    | cons => cases vs <;> exact h.elim
  | [], _, _ :: _, _, _, h, _ => h.elim
  | _ :: _, _, [], _, _, h, _ => h.elim
  | k :: ks, [], b :: bs, vs, pc, _, h => by cases vs <;> exact h.elim
  | k :: ks, n :: sz, b :: bs, [], pc, _, h => h.elim
  | k :: ks, n :: sz, b :: bs, v :: vs, pc, ha, h => by
    obtain ⟨_, _, us, T, pc', hh, hsz, rfl, h'⟩ := h
    exact ⟨b, us, T, pc', ha.1, hh, hsz, rfl, boxVals_of ha.2 h'⟩
theorem All2.mem_right {α β : Type} {R : α → β → Prop} : ∀ {as : List α} {bs : List β}, All2 R as bs → ∀ b ∈ bs, ∃ a ∈ as, R a b
  | [], [], _, b, hb => by cases hb
  | a :: as, b :: bs, h, c, hc => by
    rcases List.mem_cons.1 hc with rfl | hc
    · exact ⟨a, by simp, h.1⟩
    · obtain ⟨x, hx, hr⟩ := All2.mem_right h.2 c hc; exact ⟨x, by simp [hx], hr⟩
  | [], _ :: _, h, _, _ => h.elim
  | _ :: _, [], h, _, _ => h.elim
theorem All2.mem_left {α β : Type} {R : α → β → Prop} : ∀ {as : List α} {bs : List β}, All2 R as bs → ∀ a ∈ as, ∃ b ∈ bs, R a b
  | [], [], _, b, hb => by cases hb
  | a :: as, b :: bs, h, c, hc => by
    rcases List.mem_cons.1 hc with rfl | hc
    · exact ⟨b, by simp, h.1⟩
    · obtain ⟨x, hx, hr⟩ := All2.mem_left h.2 c hc; exact ⟨x, by simp [hx], hr⟩
  | [], _ :: _, h, _, _ => h.elim
  | _ :: _, [], h, _, _ => h.elim
theorem bs_nodup (hs : SatM φ ν m st a w) : ∀ {ks bs : List Nat}, ks.Nodup → All2 (fun k b => m k = some (b, 0)) ks bs → bs.Nodup
  | [], [], _, _ => List.nodup_nil
  | k :: ks, b :: bs, hn, h => by
    obtain ⟨h1, h2⟩ := List.nodup_cons.1 hn
    refine List.nodup_cons.2 ⟨fun hb => ?_, bs_nodup hs h2 h.2⟩
    obtain ⟨k', hk', hm'⟩ := h.2.mem_right b hb
    have := hs.inj k k' b 0 0 h.1 hm' rfl rfl
    exact h1 (this ▸ hk')
  | [], _ :: _, _, h => h.elim
  | _ :: _, [], _, h => h.elim
theorem isEx_app {a b : List Cell} : isEx (a ++ b) = true ↔ isEx a = true ∧ isEx b = true := by
  induction a with
  | nil => simp [isEx]
  | cons c r ih =>
    cases c with
    | lst e tl l => cases tl <;> simp [isEx, ih]
    | _ => simp [isEx, ih]
theorem unvC_ex {fr : Bool} {c : Cell} (h : isEx [c] = true) : unvC fr st c = some c := by
  cases c with
  | vref e k => cases h
  | _ => rfl
theorem unvL_ex {fr : Bool} : ∀ {cs : List Cell}, isEx cs = true → unvL fr st cs = some cs
  | [], _ => rfl
  | c :: r, h => by
    have h1 : isEx [c] = true ∧ isEx r = true := isEx_app.1 h
    simp only [unvL, unvC_ex h1.1, unvL_ex h1.2]
theorem unvSs_ex {fr : Bool} : ∀ {xs : List SV}, isExS xs = true → unvSs fr st xs = some xs
  | [], _ => rfl
  | x :: r, h => by
    obtain ⟨h1, h2⟩ := andd_true h
    have : unvS fr st x = some x := by
      cases x with
      | one c => simp only [unvS, unvC_ex (show isEx [c] = true from h1)]
      | agg cs => simp only [unvS, unvL_ex (show isEx cs = true from h1)]
    simp only [unvSs, this, unvSs_ex h2]
theorem shapes_ex : ∀ {sh : List (Option Nat)} {xs : List SV} {cs : List Cell}, shapes sh xs = some cs → isExS xs = true → isEx cs = true
  | [], [], cs, h, _ => by simp only [shapes, Option.some.injEq] at h; subst h; rfl
  | none :: s, .one c :: xs, cs, h, hx => by
    obtain ⟨h1, h2⟩ := andd_true hx
    simp only [shapes, Option.map_eq_some_iff] at h
    obtain ⟨r, hr, rfl⟩ := h
    exact isEx_app (a := [c]).2 ⟨h1, shapes_ex hr h2⟩
  | some n :: s, .agg ds :: xs, cs, h, hx => by
    obtain ⟨h1, h2⟩ := andd_true hx
    simp only [shapes] at h
    obtain ⟨_, h⟩ := cnd_some h
    simp only [Option.map_eq_some_iff] at h
    obtain ⟨r, hr, rfl⟩ := h
    rw [app_eq]
    exact isEx_app.2 ⟨h1, shapes_ex hr h2⟩
  | none :: _, .agg _ :: _, _, h, _ => by cases h
  | some _ :: _, .one _ :: _, _, h, _ => by cases h
  | [], _ :: _, _, h, _ => by cases h
  | none :: _, [], _, h, _ => by cases h
  | some _ :: _, [], _, h, _ => by cases h
theorem exC_false : ∀ cs : List Cell, exC false cs = cs
  | [] => rfl
  | c :: r => by cases c <;> simp only [exC, exC_false r]
def Cell.no : Cell → Cell
  | .lst e _ l => .lst e .no l | c => c
def Cell.pl : Cell → Bool
  | .int _ _ => true | .bool _ => true | .flt _ _ => true | .str _ => true | .lst _ _ _ => true | .fn _ => true | _ => false
theorem exC_true : ∀ {cs : List Cell}, isEx cs = true → exC true (cs.map Cell.no) = cs
  | [], _ => rfl
  | c :: r, h => by
    have h1 : isEx [c] = true ∧ isEx r = true := isEx_app.1 h
    cases c with
    | lst e tl l =>
      cases tl with
      | no => cases h1.1
      | exact => simp only [List.map_cons, Cell.no, exC, exC_true h1.2]
    | _ => simp only [List.map_cons, Cell.no, exC, exC_true h1.2]
theorem CR.pl_any {m' : Map} {X : Nat → Nat → Prop} {c : Cell} {v : Value} (hp : c.pl = true) (h : CR m X w c v) : CR m' X w c v := by
  cases c with
  | lst e tl l => exact h
  | int k n => exact h
  | bool b => exact h
  | flt k n => exact h
  | str s => exact h
  | fn f => exact h
  | _ => cases hp
theorem enc_dec : ∀ {t : Ty} {cs : List Cell} {x : t.den}, dec t cs = some x → enc t x = cs.map Cell.no ∧ ∀ c ∈ cs, c.pl = true := by
  intro t
  induction t with
  | pair a b iha ihb =>
    intro cs x h
    unfold dec at h
    split at h
    · rename_i x1 x2 h1 h2
      cases h
      obtain ⟨h3, h4⟩ := iha h1
      obtain ⟨h5, h6⟩ := ihb h2
      refine ⟨?_, fun c hc => ?_⟩
      · simp only [enc, app_eq, h3, h5]
        rw [← List.map_append, List.take_append_drop]
      · rw [← List.take_append_drop a.n cs] at hc
        rcases List.mem_append.1 hc with hc | hc
        · exact h4 c hc
        · exact h6 c hc
    · cases h
  | int k =>
    intro cs x h
    unfold dec at h
    split at h
    · obtain ⟨h1, h2⟩ := cnd_some h
      cases h2
      exact ⟨by rw [← keq_eq h1]; rfl, by simp [Cell.pl]⟩
    · cases h
  | flt k =>
    intro cs x h
    unfold dec at h
    split at h
    · obtain ⟨h1, h2⟩ := cnd_some h
      cases h2
      exact ⟨by rw [← feq_eq h1]; rfl, by simp [Cell.pl]⟩
    · cases h
  | sl e ih =>
    intro cs x h
    unfold dec at h
    split at h
    · obtain ⟨e0, h2⟩ := castL_ok h
      subst e0
      subst h2
      exact ⟨rfl, by simp [Cell.pl]⟩
    · cases h
  | unit =>
    intro cs x h
    unfold dec at h
    split at h
    · cases h; exact ⟨rfl, by simp⟩
    · cases h
  | _ =>
    intro cs x h
    unfold dec at h
    split at h
    · cases h; exact ⟨rfl, by simp [Cell.pl]⟩
    · cases h
theorem applyB_new {f : Nat → Option Bx} {u : Nat} : ∀ {l : List (Nat × Nat)} {cs : List Cell}, applyB (newBxs l cs) f u = (match boxesOf .cells l cs u with | some bx => some bx | none => f u)
  | [], _ => rfl
  | (k, n) :: r, cs => by
    simp only [newBxs, applyB, boxesOf]
    by_cases h : u = k
    · rw [cnd_beq_true h, cnd_beq_true h]
    · rw [cnd_beq_false h, cnd_beq_false h]; exact applyB_new
theorem boxesOf_box {X : Nat → Nat → Prop} {rest : List Value} : ∀ {l : List (Nat × Nat)} {cs : List Cell} {vs : List Value} {u : Nat} {bx : Bx}, BoxVals m w l vs → CRs m X w cs (vs ++ rest) → boxesOf .cells l cs u = some bx →
    u ∈ firsts l ∧ ∃ cs', bx = .cells cs' ∧ ∃ b us T, m u = some (b, 0) ∧ w.heap[b]? = some (.cells us T (0, 0)) ∧ CRs m X w cs' us.toList
  | [], cs, vs, u, bx, _, _, h => by cases h
  | (k, n) :: r, cs, vs, u, bx, hv, hc, h => by
    obtain ⟨b, us, T, vs', hm, hh, hl, rfl, h1⟩ := hv
    have h3 := All2.take n hc
    have h4 := All2.drop n hc
    rw [List.append_assoc, show (us.toList ++ (vs' ++ rest)).take n = us.toList by rw [← hl]; simp] at h3
    rw [List.append_assoc, show (us.toList ++ (vs' ++ rest)).drop n = vs' ++ rest by rw [← hl]; simp] at h4
    simp only [boxesOf] at h
    by_cases hut : u = k
    · rw [cnd_beq_true hut] at h
      cases h
      subst hut
      exact ⟨by simp [firsts], _, rfl, b, us, T, hm, hh, h3⟩
    · rw [cnd_beq_false hut] at h
      obtain ⟨h5, h6⟩ := boxesOf_box h1 h4 h
      exact ⟨by simp [firsts, h5], h6⟩
theorem boxesOf_none {mk : List Cell → Bx} : ∀ {l : List (Nat × Nat)} {cs : List Cell} {u : Nat}, boxesOf mk l cs u = none → u ∉ firsts l
  | [], _, _, _, h => by cases h
  | (k, n) :: r, cs, u, h, hu => by
    simp only [boxesOf] at h
    simp only [firsts, List.mem_cons] at hu
    by_cases hut : u = k
    · rw [cnd_beq_true hut] at h; cases h
    · rw [cnd_beq_false hut] at h
      exact boxesOf_none h (hu.resolve_left hut)
theorem firsts_zip : ∀ {ks sz : List Nat}, ks.length = sz.length → firsts (zipN ks sz) = ks
  | [], [], _ => rfl
  | k :: ks, n :: sz, h => by simp only [zipN, firsts, firsts_zip (show ks.length = sz.length by simpa using h)]
  | [], _ :: _, h => by simp at h
  | _ :: _, [], h => by simp at h
theorem XA_box {k b : Nat} (h : m k = some (b, 0)) (q : Nat) : XA φ m b q := .inr ⟨k, 0, h, rfl⟩
theorem ok_ptr2 {f : FuncId} {cp : Cp} {d : Nat} {xs0 : List SV} {args : Array Value} (hev : evPtr st cp d xs0 = some e) (hd : o.dst = some d) (hxs : All2 (SR m (XA φ m) w) xs0 args.toList)
    (hrun : (execOp a.eval o).run P w = .ok (.enter f args) w) (hok : CpOk P C.G f cp) (hfr : FrOk C.G φ) (hneed : ∀ p, e.need = some p → p) (htags : holdsTags ν own) (hsat : SatM φ ν m st a w) (hdst : ∀ d, o.dst = some d → d < φ.n ∧ φ.D d = true)
    (hK : (∀ p b, evPan st cp xs0 ≠ some (p, true, b)) → ∀ a' w', Sat φ ν (e.apply own st) a' w' → K a' w')
    (hQ : ∀ p b, evPan st cp xs0 = some (p, true, b) → ∀ m' w', SatM φ ν m' { slot := st.slot, box := applyB b st.box } a w' → Q (.panic [{ v := cp.pv, recovered := false }]) a w') : o.wp P a w K Q := by
  unfold evPtr at hev
  split at hev
  case h_2 => cases hev
  rename_i ks vs hks hvs
  split at hev
  case h_2 => cases hev
  rename_i kc0 vc hkc0 hvc
  split at hev
  case h_2 => cases hev
  rename_i kc hkc
  split at hev
  case h_2 => cases hev
  rename_i x hx
  split at hev
  case h_2 => cases hev
  rename_i tv htv
  obtain ⟨hc, hev⟩ := cnd_some hev
  obtain ⟨c1, hc⟩ := andd_true hc
  obtain ⟨c2, hc⟩ := andd_true hc
  obtain ⟨c3, hc⟩ := andd_true hc
  obtain ⟨c4, hc⟩ := andd_true hc
  obtain ⟨c5, c6⟩ := andd_true hc
  have c1 := beq_eq c1
  have c2 := beq_eq c2
  rw [lenL_eq, lenL_eq] at c1 c2
  simp only [Option.some.injEq] at hev
  subst hev
  have hvals := All2.valsOf (mask := cp.mask) hxs
  have hptrs := All2.ptrsIn (mask := cp.mask) hxs
  have hall := unvSs_ok hsat hvs hvals (ks := vksS (valsOf cp.mask xs0)) (fun _ k hk => hk)
  obtain ⟨cv, hsh, hcv⟩ := shapes_ok hvc hall
  have hkc0' := hkc0
  obtain ⟨pc, hbv, hpc, hown⟩ : ∃ pc, BoxVals m w (zipN ks cp.sz) pc ∧ CRs m (XA φ m) w kc0 pc ∧ (cp.ro = false → ∀ k ∈ firsts (zipN ks cp.sz), ∃ ds, st.box k = some (.cells ds)) := by
    cases hro : cp.ro with
    | true =>
      rw [hro] at hkc0
      obtain ⟨pc, h1, h2⟩ := rdR_ok hsat hkc0
      exact ⟨pc, h1, h2, fun h => by cases h⟩
    | false =>
      rw [hro] at hkc0
      obtain ⟨pc, h1, h2, h3⟩ := rdW_ok hsat hkc0
      exact ⟨pc, h1, h2, fun _ => h3⟩
  have hkcr := unvL_ok hsat hkc hpc (ks := vksS (valsOf cp.mask xs0)) (fun h => by cases h)
  let X : Nat → Nat → Prop := Xc φ m (vksS (valsOf cp.mask xs0))
  have hXbox : ∀ k ∈ ks, ∀ b, m k = some (b, 0) → ∀ q, X b q := by
    intro k hk b hm q
    refine ⟨XA_box hm q, fun j hj p hp0 hp1 hmj => ?_⟩
    have := hsat.inj k j b 0 p hm hmj rfl hp0
    subst this
    rw [hm] at hmj
    cases hmj
    omega
  obtain ⟨bs, hbs, hpv⟩ := ptrVals_of (X := X) (boxKs_ok hks hptrs) c2 hbv hXbox
  have hcs : CRs m X w (app vc kc) (cv ++ pc) := by rw [app_eq]; exact All2.append hcv hkcr
  obtain ⟨henc, hpl⟩ := enc_dec hx
  have hexc : CRs (fun _ => none) X w (exC cp.ex (enc cp.p x)) (cv ++ pc) := by
    cases hex : cp.ex with
    | false => rw [exC_false]; exact enc_ok (dec_ok hx hcs)
    | true =>
      rw [hex] at c5
      obtain ⟨e1, e2⟩ := andd_true ((orr_true c5).resolve_left (by intro hh; cases hh))
      have hv2 : vs = valsOf cp.mask xs0 := by rw [unvSs_ex e1] at hvs; exact (Option.some.inj hvs).symm
      have hk2 : kc = kc0 := by rw [unvL_ex e2] at hkc; exact (Option.some.inj hkc).symm
      have hiv : isEx (app vc kc) = true := by rw [app_eq]; exact isEx_app.2 ⟨shapes_ex hvc (by rw [hv2]; exact e1), by rw [hk2]; exact e2⟩
      rw [henc, exC_true hiv]
      have key : ∀ (cs : List Cell) (us : List Value), (∀ c ∈ cs, c.pl = true) → CRs m X w cs us → CRs (fun _ => none) X w cs us := by
        intro cs
        induction cs with
        | nil => intro us _ h; cases us with | nil => trivial | cons => exact h.elim
        | cons c cs ih => intro us hp h; cases us with | nil => exact h.elim | cons u us => exact ⟨CR.pl_any (hp c (by simp)) h.1, ih us (fun c hc => hp c (by simp [hc])) h.2⟩
      exact key _ _ hpl hcs
  have hsize : args.size = cp.mask.length := by rw [c1]; have := hxs.length; simpa using this.symm
  have hpre : ∀ q, cp.pre = some q → q x := fun q hq => hneed (q x) (by simp [hq])
  have hcall := hok x w X args cv pc bs (C.G.mono (hfr.gl ▸ hsat.glob) hfr.wok) (fun b p hX => ⟨live_lt hsat hX.1, hfr.gl ▸ XA_gl hsat hX.1⟩) hpre hsize (bs_nodup hsat (nodupN_spec c3) hbs) hsh hpv hexc
  have hXA : ∀ {t : Ty} {y : t.den} {us : List Value} {w' : World}, (isNilB (vksS (valsOf cp.mask xs0)) = true ∨ t.hasSl = false) → TR w' X t y us → TR w' (XA φ m) t y us := by
    intro t y us w' hc ht
    rcases hc with hc | hc
    · have : vksS (valsOf cp.mask xs0) = [] := by cases hv : vksS (valsOf cp.mask xs0) with | nil => rfl | cons k r => rw [hv] at hc; cases hc
      have hX : X = XA φ m := by funext b q; show Xc φ m (vksS (valsOf cp.mask xs0)) b q = _; rw [this]; simp [Xc]
      rw [hX] at ht; exact ht
    · exact TR.nosl hc ht
  have hcr : (isNilB (vksS (valsOf cp.mask xs0)) = true ∨ cp.r.hasSl = false) ∧ (isNilB (vksS (valsOf cp.mask xs0)) = true ∨ cp.q.hasSl = false) := by
    rcases orr_true c6 with h1 | h1
    · exact ⟨.inl h1, .inl h1⟩
    · obtain ⟨h2, h3⟩ := andd_true h1; exact ⟨.inr (nott_true h2), .inr (nott_true h3)⟩
  unfold Oper.wp
  rw [hrun, Oper.upon_enter]
  have hpan : evPan st cp xs0 = some ((match cp.pre with | some q => some (q x) | none => none), pnB cp x, cnd cp.ro [] (newBxs (zipN ks cp.sz) (enc cp.q (cp.F x).2))) := by
    unfold evPan
    simp only [hks, hvs]
    simp only [hkc0', hvc]
    simp only [hkc, hx]
    first | rfl | (cases cp.pre <;> rfl)
  have hnew : ∀ w' pc', BelowBut (if cp.ro then [] else bs) w w' → PtrVals w' X bs cp.sz (ptrsIn cp.mask args.toList) pc' → TR w' X cp.q (cp.F x).2 pc' →
      SatM φ ν m { slot := st.slot, box := applyB (cnd cp.ro [] (newBxs (zipN ks cp.sz) (enc cp.q (cp.F x).2))) st.box } a w' := by
    intro w' pc' hb hpv' hq
    cases hro : cp.ro with
    | true =>
      rw [hro] at hb
      have hbel : Below w.heap.size w w' := ⟨hb.os, hb.tape, hb.output, hb.size, fun k hk => hb.block k hk (by simp)⟩
      exact hsat.ext hbel
    | false =>
      rw [hro] at hb
      have hb : BelowBut bs w w' := hb
      have hbv' := boxVals_of hbs hpv'
      have hqc : CRs m (XA φ m) w' (enc cp.q (cp.F x).2) (pc' ++ []) := by rw [List.append_nil]; exact enc_ok (hXA hcr.2 hq)
      have hfz := firsts_zip c2
      have hbsk : ∀ b, b ∈ bs → ∃ k ∈ ks, m k = some (b, 0) := fun b hb => hbs.mem_right b hb
      have hkeep : Keeps (XA φ m) w w' := ⟨hb.size, fun b p hlt hx => by
        have : b ∉ bs := fun hin => by obtain ⟨k, _, hk⟩ := hbsk b hin; exact hx (XA_box hk p)
        unfold World.cell?; rw [hb.block b hlt this], hb.shape, fun b p hlt => hb.frozen b p hlt⟩
      have hsat' : SatM φ ν m { slot := st.slot, box := applyB (newBxs (zipN ks cp.sz) (enc cp.q (cp.F x).2)) st.box } a w' := by
        refine hsat.change hkeep (MLe.refl m) noMore_refl ?_ hsat.inj (fun k b p hk he => Nat.lt_of_lt_of_le (hsat.low k b p hk he) hb.size) ?_ ?_ hsat.vn hsat.ngl ?_ ⟨hb.os, hb.tape, hb.output⟩ ?_
        · intro k bx hk
          rw [applyB_new] at hk
          split at hk
          · rename_i bx' hbx
            cases hk
            obtain ⟨_, cs', rfl, b, us, T, h1, h2, h3⟩ := boxesOf_box hbv' hqc hbx
            exact ⟨b, us, T, h1, h2, h3⟩
          · rename_i hnone
            have hkn := boxesOf_none hnone
            rw [hfz] at hkn
            refine (hsat.box k bx hk).mle hkeep noMore_refl (MLe.refl m) fun b p h1 h2 => ⟨h1, hb.block b (hsat.low _ _ _ h1 h2) fun hin => ?_⟩
            obtain ⟨k', hk', hm'⟩ := hbsk b hin
            exact hkn (hsat.inj k k' b p 0 h1 hm' h2 rfl ▸ hk')
        · intro k hk
          rw [applyB_new] at hk
          split at hk
          · cases hk
          · exact hsat.dom k hk
        · intro k bx b p h1 h2 h3 h4
          rw [applyB_new] at h1
          split at h1
          · rename_i bx' hbx
            obtain ⟨hin, _⟩ := boxesOf_box hbv' hqc hbx
            obtain ⟨ds, hds⟩ := hown hro k hin
            exact hsat.own k _ b p hds rfl h3 h4
          · exact hsat.own k bx b p h1 h2 h3 h4
        · refine ⟨hb.os, hb.tape, hb.size, fun b hg => ⟨hsat.glt b hg, hb.block b (hsat.glt b hg) fun hin => ?_⟩⟩
          obtain ⟨k, _, hk⟩ := hbsk b hin
          exact hsat.ngl k b 0 hk rfl hg
        · intro b hlt hnB
          refine hb.block b (Nat.lt_of_lt_of_le hlt hsat.old.2.2.2) fun hin => ?_
          obtain ⟨k, hk, hm⟩ := hbsk b hin
          obtain ⟨ds, hds⟩ := hown hro k (by rw [hfz]; exact hk)
          rcases hsat.own k _ b 0 hds rfl hm rfl with h5 | h5
          · exact hnB h5
          · omega
      exact hsat'
  refine hcall.mono fun e' w' hh => ?_
  rcases hh with ⟨hpb, v, he', hb, ⟨rv, hr1, _, hr2⟩, pc', hpv', hq⟩ | ⟨hpb, he', hb, pc', hpv', hq⟩
  · subst he'
    show K (a.put o.dst v) w'
    rw [hd]
    have hres : VR m (XA φ m) w' tv v := mkRes_ok htv (enc_ok (hXA hcr.1 hr1)) hr2
    refine hK (fun p b hp => ?_) _ _ ⟨m, (hnew w' pc' hb hpv' hq).put (hdst d hd).1 (hdst d hd).2 htags hres⟩
    rw [hpan] at hp
    simp only [Option.some.injEq, Prod.mk.injEq] at hp
    rw [hpb] at hp
    cases hp.2.1
  · subst he'
    show Q (.panic [{ v := cp.pv, recovered := false }]) a w'
    exact hQ _ _ (by rw [hpan, hpb]) m w' (hnew w' pc' hb hpv' hq)
theorem ok_ptr {f : FuncId} {cp : Cp} {d : Nat} {xs0 : List SV} {args : Array Value} (hev : evPtrN st cp d xs0 = some e) (hd : o.dst = some d) (hxs : All2 (SR m (XA φ m) w) xs0 args.toList)
    (hrun : (execOp a.eval o).run P w = .ok (.enter f args) w) (hok : CpOk P C.G f cp) (h : At P C φ ν own W st o e m a w K) : o.wp P a w K Q := by
  unfold evPtrN at hev
  split at hev
  case h_2 => cases hev
  rename_i e0 he0
  cases hp : cp.pn with
  | none =>
    rw [hp] at hev
    simp only [Option.some.injEq] at hev
    subst hev
    refine ok_ptr2 he0 hd hxs hrun hok h.fr h.need h.tags h.sat h.dst (fun _ => h.next) (fun p b hb => ?_)
    exfalso
    unfold evPan pnB at hb
    simp only [hp] at hb
    repeat (split at hb <;> first | cases hb | skip)
  | some g =>
    rw [hp] at hev
    simp only at hev
    split at hev
    case h_2 => cases hev
    rename_i p0 b0 bx0 hpan
    simp only [Option.some.injEq] at hev
    subst hev
    have hn : andO e0.need (b0 = false) := h.need _ rfl
    have hn2 : (∀ p, e0.need = some p → p) ∧ b0 = false := by
      cases hq : e0.need with
      | none => rw [hq] at hn; exact ⟨(fun p hp => by cases hp), hn⟩
      | some p => rw [hq] at hn; exact ⟨(fun q hq => by cases hq; exact hn.1), hn.2⟩
    refine ok_ptr2 he0 hd hxs hrun hok h.fr hn2.1 h.tags h.sat h.dst (fun _ a' w' hs => h.next a' w' ?_) (fun p b hb => ?_)
    · exact hs
    · rw [hpan] at hb
      simp only [Option.some.injEq, Prod.mk.injEq] at hb
      rw [hn2.2] at hb
      cases hb.2.1
theorem Xc_frz (hs : SatM φ ν m st a w) : ∀ {ks : List Nat}, allFz st ks = true → Xc φ m ks = XA φ m := by
  intro ks h
  have key : ∀ (ks : List Nat), allFz st ks = true → ∀ k ∈ ks, ∀ b p, p % 2 = 0 → m k ≠ some (b, p) := by
    intro ks
    induction ks with
    | nil => intro _ k hk; cases hk
    | cons k0 r ih =>
      intro h k hk b p hp hm
      simp only [allFz] at h
      split at h
      · rename_i t l hb
        rcases List.mem_cons.1 hk with rfl | hk
        · obtain ⟨b', p', h1, h2⟩ := hs.box _ _ hb
          rw [hm] at h1
          cases h1
          rcases h2 with ⟨_, h3⟩ | ⟨h3, _⟩ <;> omega
        · exact ih h k hk b p hp hm
      · cases h
  funext b q
  exact propext ⟨fun hx => hx.1, fun hx => ⟨hx, fun k hk p hp _ => key ks h k hk b p hp⟩⟩
theorem BelowBut.keeps' {bs : List Nat} {X : Nat → Nat → Prop} (h : BelowBut bs w w') (hX : ∀ b ∈ bs, ∀ p, X b p) : Keeps X w w' :=
  ⟨h.size, fun b p hb hx => by unfold World.cell?; rw [h.block b hb (fun hm => hx (hX b hm p))], h.shape, h.frozen⟩
theorem SatM.writeRow (h : SatM φ ν m st a w) {d k b rb p rb' p' : Nat} {T T0 : TypeId} {v' : Value} {l' : List Int} {c : Cell} {j : Option Nat} (hnone : st.box d = none) (hk : st.box k = some (.cells [c])) (hmk : m k = some (b, 0)) (hdk : d ≠ k)
    (hj : ∀ k0, j = some k0 → (∃ ow T e l, st.box k0 = some (.vec ow T e l)) ∧ m k0 = some (rb, p)) (hj0 : j = none → p % 2 = 1)
    (hBB : BelowBut (if p % 2 = 0 then [b, rb] else [b]) w w') (hin : RowIn (fun b' q => XA φ m b' q ∧ (p % 2 = 0 → b' ≠ rb)) w' b rb' p' T T0 v' l') (hlive : p' % 2 = 0 → (p % 2 = 0 ∧ rb' = rb) ∨ w.heap.size ≤ rb') :
    Sat φ ν { slot := st.slot, box := applyB ((d, some (.vec false T (.int .u8) l')) :: (k, some (.cells [.vref (.int .u8) d])) :: killO j) st.box } a w' := by
  have hXb : ∀ q, XA φ m b q := fun q => .inr ⟨k, 0, hmk, rfl⟩
  have hrow : p % 2 = 0 → ∃ k0, j = some k0 ∧ m k0 = some (rb, p) ∧ ∃ ow T e l, st.box k0 = some (.vec ow T e l) := fun hp => by
    cases hjj : j with
    | none => have := hj0 hjj; omega
    | some k0 => obtain ⟨h1, h2⟩ := hj k0 hjj; exact ⟨k0, rfl, h2, h1⟩
  have hXr : p % 2 = 0 → ∀ q, XA φ m rb q := fun hp q => by obtain ⟨k0, _, h1, _⟩ := hrow hp; exact .inr ⟨k0, p, h1, hp⟩
  have hin_bs : ∀ x ∈ (if p % 2 = 0 then [b, rb] else [b]), x = b ∨ (p % 2 = 0 ∧ x = rb) := fun x hx => by
    by_cases hp : p % 2 = 0
    · rw [if_pos hp] at hx; simp at hx; rcases hx with hx | hx
      · exact .inl hx
      · exact .inr ⟨hp, hx⟩
    · rw [if_neg hp] at hx; simp at hx; exact .inl hx
  have hkeep : Keeps (XA φ m) w w' := hBB.keeps' fun x hx q => by
    rcases hin_bs x hx with rfl | ⟨hp, rfl⟩
    · exact hXb q
    · exact hXr hp q
  have hblk : ∀ x, x < w.heap.size → x ≠ b → (p % 2 = 0 → x ≠ rb) → w'.heap[x]? = w.heap[x]? := fun x hx h1 h2 => hBB.block x hx fun hm => by
    rcases hin_bs x hm with h3 | ⟨hp, h3⟩
    · exact h1 h3
    · exact h2 hp h3
  let kill : Nat → Nat := fun p => if p % 2 = 0 then p + 1 else p
  have hodd : kill p % 2 = 1 := by simp only [kill]; split <;> omega
  obtain ⟨rb0, p0, hm0, hpos, hcell⟩ := hin.cell
  have hm0 : (rb', p') = (rb0, p0) := by have : mapR b rb' p' 1 = some (rb', p') := by simp [mapR]
                                         rw [this] at hm0; exact Option.some.inj hm0
  simp only [Prod.mk.injEq] at hm0
  obtain ⟨rfl, rfl⟩ := hm0
  have hmd : m d = none := h.dom d hnone
  have hjd : j ≠ some d := fun e => by obtain ⟨⟨_, _, _, _, h1⟩, _⟩ := hj d e; rw [hnone] at h1; cases h1
  have hjk : j ≠ some k := fun e => by obtain ⟨⟨_, _, _, _, h1⟩, _⟩ := hj k e; rw [hk] at h1; cases h1
  let m' : Map := fun u => if u = d then some (rb', p') else if j = some u then some (rb, kill p) else m u
  have hmd' : m' d = some (rb', p') := by simp [m']
  have hmj' : ∀ u, j = some u → m' u = some (rb, kill p) := fun u hu => by
    have : u ≠ d := fun e => hjd (e ▸ hu)
    simp [m', this, hu]
  have hmo : ∀ u, u ≠ d → j ≠ some u → m' u = m u := fun u h1 h2 => by simp [m', h1, h2]
  have hmk' : m' k = some (b, 0) := by rw [hmo k hdk.symm hjk]; exact hmk
  have hmle : MLe m m' := fun u b' q hu => by
    have hud : u ≠ d := fun e => by rw [e, hmd] at hu; cases hu
    by_cases huj : j = some u
    · obtain ⟨_, h1⟩ := hj u huj
      rw [hu] at h1
      cases h1
      refine ⟨_, hmj' u huj, ?_⟩
      simp only [kill]
      split
      · rename_i he
        obtain ⟨k0, hk0, hmk0, ow, T1, e1, l1, hb0⟩ := hrow he
        rw [huj] at hk0
        cases hk0
        obtain ⟨b2, p2, h3, h4⟩ := h.box u _ hb0
        rw [hu] at h3
        cases h3
        have : 0 < p := by rcases h4 with ⟨_, h5⟩ | ⟨h5, _⟩ | ⟨_, h5, _⟩ <;> omega
        exact .inr ⟨he, this, rfl⟩
      · exact .inl rfl
    · exact ⟨q, by rw [hmo u hud huj]; exact hu, .inl rfl⟩
  have hXof : ∀ b' q, XA φ m' b' q → XA φ m b' q ∨ (p' % 2 = 0 ∧ b' = rb' ∧ w.heap.size ≤ rb') := fun b' q hx => by
    rcases hx with hx | ⟨u, pu, h1, h2⟩
    · exact .inl (.inl hx)
    by_cases hud : u = d
    · rw [hud, hmd'] at h1
      cases h1
      rcases hlive h2 with ⟨h3, h4⟩ | h3
      · rw [h4]; exact .inl (hXr h3 q)
      · exact .inr ⟨h2, rfl, h3⟩
    · by_cases huj : j = some u
      · rw [hmj' u huj] at h1
        cases h1
        omega
      · rw [hmo u hud huj] at h1
        exact .inl (.inr ⟨u, pu, h1, h2⟩)
  have hX : NoMore w (XA φ m) (XA φ m') := fun b' q hl hx => by
    rcases hXof b' q hx with h1 | ⟨_, h2, h3⟩
    · exact h1
    · omega
  have hbe : ∀ u, applyB ((d, some (.vec false T (.int .u8) l')) :: (k, some (.cells [.vref (.int .u8) d])) :: killO j) st.box u = if u = d then some (.vec false T (.int .u8) l') else if u = k then some (.cells [.vref (.int .u8) d]) else if j = some u then some .tok else st.box u := fun u => by
    have hif : ∀ {α : Type} (a b : Nat) (x y : α), cnd (Nat.beq a b) x y = if a = b then x else y := fun a b x y => by
      by_cases hab : a = b
      · rw [cnd_beq_true hab, if_pos hab]
      · rw [cnd_beq_false hab, if_neg hab]
    simp only [applyB, hif]
    by_cases h1 : u = d
    · rw [if_pos h1, if_pos h1]
    · rw [if_neg h1, if_neg h1]
      by_cases h2 : u = k
      · rw [if_pos h2, if_pos h2]
      · rw [if_neg h2, if_neg h2]
        cases hjj : j with
        | none => simp [killO, applyB]
        | some j0 =>
          simp only [killO, applyB, hif]
          by_cases h3 : u = j0
          · rw [if_pos h3, if_pos (by rw [h3])]
          · rw [if_neg h3, if_neg (fun e => h3 (Option.some.inj e).symm)]
  refine ⟨m', h.change (box' := applyB ((d, some (.vec false T (.int .u8) l')) :: (k, some (.cells [.vref (.int .u8) d])) :: killO j) st.box) hkeep hmle hX ?_ ?_ ?_ ?_ ?_ ?_ ?_ ?_ ⟨hBB.os, hBB.tape, hBB.output⟩ ?_⟩
  · intro u bx hu
    rw [hbe] at hu
    by_cases h1 : u = d
    · rw [if_pos h1] at hu
      cases hu
      subst h1
      obtain ⟨b2, p2, h2, h3⟩ := hin.row
      have : mapR b rb' p' 1 = some (rb', p') := by simp [mapR]
      rw [this] at h2
      cases h2
      refine ⟨rb', p', hmd', ?_⟩
      rcases h3 with h3 | ⟨h3, h4⟩ | ⟨h3, h4, h5, h6⟩
      · exact .inl h3
      · exact .inr (.inl ⟨h3, h4⟩)
      · refine .inr (.inr ⟨h3, h4, h5.mono keeps_same (fun b' q _ hx => ?_) (fun x vs hx => hx), h6⟩)
        rcases hXof b' q hx with h7 | ⟨h7, _⟩
        · refine ⟨h7, fun hp e => ?_⟩
          subst e
          obtain ⟨k0, hk0, hmk0, ow, T1, e1, l1, hb0⟩ := hrow hp
          rcases hx with hx | ⟨u2, pu, g1, g2⟩
          · obtain ⟨g1, g2, _⟩ := h.x0 _ _ hx
            rcases h.own k0 _ _ _ hb0 rfl hmk0 hp with g3 | g3
            · exact g2 g3
            · omega
          · by_cases hud : u2 = u
            · rw [hud, hmd'] at g1; cases g1; omega
            · by_cases huj : j = some u2
              · rw [hmj' u2 huj] at g1; cases g1; omega
              · rw [hmo u2 hud huj] at g1
                have := h.inj _ _ _ _ _ g1 hmk0 g2 hp
                subst this
                exact huj hk0
        · omega
    · rw [if_neg h1] at hu
      by_cases h2 : u = k
      · rw [if_pos h2] at hu
        cases hu
        subst h2
        exact ⟨b, _, T0, hmk', hin.box, ⟨rb', p', hmd', hpos, hcell⟩, trivial⟩
      · rw [if_neg h2] at hu
        by_cases h3 : j = some u
        · rw [if_pos h3] at hu
          cases hu
          trivial
        · rw [if_neg h3] at hu
          refine (h.box u bx hu).mle hkeep hX hmle fun b' q h4 h5 => ⟨by rw [hmo u h1 h3]; exact h4, hblk b' (h.low u b' q h4 h5) (fun e => ?_) (fun hp e => ?_)⟩
          · subst e; exact h2 (h.inj _ _ _ _ _ h4 hmk h5 rfl)
          · subst e
            obtain ⟨k0, hk0, hmk0, _⟩ := hrow hp
            have := h.inj _ _ _ _ _ h4 hmk0 h5 hp
            rw [this] at h3
            exact h3 hk0
  · intro u u' b' q q' h1 h2 h3 h4
    have key : ∀ u q, m' u = some (b', q) → q % 2 = 0 → (u = d ∧ b' = rb' ∧ q = p') ∨ (u ≠ d ∧ j ≠ some u ∧ m u = some (b', q)) := fun u q h1 h3 => by
      by_cases hud : u = d
      · rw [hud, hmd'] at h1; cases h1; exact .inl ⟨hud, rfl, rfl⟩
      · by_cases huj : j = some u
        · rw [hmj' u huj] at h1; cases h1; omega
        · rw [hmo u hud huj] at h1; exact .inr ⟨hud, huj, h1⟩
    have cross : ∀ u q, j ≠ some u → m u = some (rb', q) → q % 2 = 0 → p' % 2 = 0 → False := fun u q hju hmu hq hp' => by
      rcases hlive hp' with ⟨h5, h6⟩ | h5
      · obtain ⟨k0, hk0, hmk0, _⟩ := hrow h5
        rw [h6] at hmu
        have := h.inj _ _ _ _ _ hmu hmk0 hq h5
        rw [this] at hju
        exact hju hk0
      · have := h.low u _ _ hmu hq; omega
    rcases key u q h1 h3 with ⟨e1, e2, e3⟩ | ⟨e1, e2, e3⟩ <;> rcases key u' q' h2 h4 with ⟨f1, f2, f3⟩ | ⟨f1, f2, f3⟩
    · rw [e1, f1]
    · subst e2 e3; exact (cross u' q' f2 f3 h4 h3).elim
    · subst f2 f3; exact (cross u q e2 e3 h3 h4).elim
    · exact h.inj _ _ _ _ _ e3 f3 h3 h4
  · intro u b' q h1 h2
    by_cases hud : u = d
    · rw [hud] at h1; have h1 := hmd'.symm.trans h1; cases h1; exact (hin.live h2).2
    · by_cases huj : j = some u
      · have h1 := (hmj' u huj).symm.trans h1; cases h1; omega
      · have h1 := (hmo u hud huj).symm.trans h1; have := h.low u b' q h1 h2; have := hBB.size; omega
  · intro u hu
    rw [hbe] at hu
    by_cases h1 : u = d
    · rw [if_pos h1] at hu; cases hu
    · rw [if_neg h1] at hu
      by_cases h2 : u = k
      · rw [if_pos h2] at hu; cases hu
      · rw [if_neg h2] at hu
        by_cases h3 : j = some u
        · rw [if_pos h3] at hu; cases hu
        · rw [if_neg h3] at hu; rw [hmo u h1 h3]; exact h.dom u hu
  · intro u bx b' q h1 h2 h3 h4
    by_cases hud : u = d
    · rw [hud] at h3
      have h3 := hmd'.symm.trans h3
      cases h3
      rcases hlive h4 with ⟨h5, h6⟩ | h5
      · obtain ⟨k0, hk0, hmk0, ow, T1, e1, l1, hb0⟩ := hrow h5
        rw [h6]
        exact h.own k0 _ _ _ hb0 rfl hmk0 h5
      · have := h.old.2.2.2; exact .inr (by omega)
    · by_cases huj : j = some u
      · have h3 := (hmj' u huj).symm.trans h3; cases h3; omega
      · have h3 := (hmo u hud huj).symm.trans h3
        rw [hbe, if_neg hud] at h1
        by_cases h5 : u = k
        · subst h5; exact h.own _ _ _ _ hk rfl h3 h4
        · rw [if_neg h5, if_neg huj] at h1; exact h.own u bx b' q h1 h2 h3 h4
  · intro u b' q h1 h2 h3
    by_cases hud : u = d
    · rw [hud] at h1
      have h1 := hmd'.symm.trans h1
      cases h1
      rcases hlive h2 with ⟨h5, h6⟩ | h5
      · obtain ⟨k0, hk0, hmk0, ow, T1, e1, l1, hb0⟩ := hrow h5
        obtain ⟨b2, p2, h7, h8⟩ := h.box k0 _ hb0
        rw [hmk0] at h7
        cases h7
        rw [h6]
        exact h.vn k0 _ _ hmk0 h5 (by rcases h8 with ⟨_, h9⟩ | ⟨h9, _⟩ | ⟨_, h9, _⟩ <;> omega)
      · have := h.old.2.2.2; have := h.n0; omega
    · by_cases huj : j = some u
      · have h1 := (hmj' u huj).symm.trans h1; cases h1; omega
      · have h1 := (hmo u hud huj).symm.trans h1; exact h.vn u b' q h1 h2 h3
  · intro u b' q h1 h2 hg
    by_cases hud : u = d
    · rw [hud] at h1
      have h1 := hmd'.symm.trans h1
      cases h1
      rcases hlive h2 with ⟨h5, h6⟩ | h5
      · obtain ⟨k0, hk0, hmk0, _⟩ := hrow h5
        rw [h6] at hg
        exact h.ngl k0 _ _ hmk0 h5 hg
      · have := h.glt _ hg; omega
    · by_cases huj : j = some u
      · have h1 := (hmj' u huj).symm.trans h1; cases h1; omega
      · have h1 := (hmo u hud huj).symm.trans h1; exact h.ngl u b' q h1 h2 hg
  · refine ⟨hBB.os, hBB.tape, hBB.size, fun b' hg => ⟨h.glt b' hg, hblk b' (h.glt b' hg) (fun e => ?_) (fun hp e => ?_)⟩⟩
    · subst e; exact h.ngl k _ _ hmk rfl hg
    · subst e; obtain ⟨k0, _, hmk0, _⟩ := hrow hp; exact h.ngl k0 _ _ hmk0 hp hg
  · intro b' hb' hnB
    refine hblk b' (Nat.lt_of_lt_of_le hb' h.old.2.2.2) (fun e => ?_) (fun hp e => ?_)
    · subst e
      rcases h.own k _ _ _ hk rfl hmk rfl with h1 | h1
      · exact hnB h1
      · omega
    · subst e
      obtain ⟨k0, _, hmk0, ow, T1, e1, l1, hb0⟩ := hrow hp
      rcases h.own k0 _ _ _ hb0 rfl hmk0 hp with h1 | h1
      · exact hnB h1
      · omega
theorem ok_z {f : FuncId} {z : Zc} {d : Nat} {xs0 : List SV} {args : Array Value} (hev : evZ st z d xs0 = some e) (hd : o.dst = some d) (hxs : All2 (SR m (XA φ m) w) xs0 args.toList)
    (hrun : (execOp a.eval o).run P w = .ok (.enter f args) w) (hok : ZcOk P C.G f z) (h : At P C φ ν own W st o e m a w K) : o.wp P a w K Q := by
  cases z with
  | mk cm =>
    simp only [evZ, evMk] at hev
    split at hev
    case h_2 => cases hev
    rename_i xs hxs0 hnone
    split at hev
    case h_2 => cases hev
    rename_i cs hcs
    split at hev
    case h_2 => cases hev
    rename_i x hx
    obtain ⟨hz, hev⟩ := cnd_some hev
    have hall := unvSs_ok h.sat hxs0 hxs (ks := vksS xs0) (fun _ k hk => hk)
    rw [Xc_frz h.sat hz] at hall
    obtain ⟨cv, hsh, hcv⟩ := shapes_ok hcs hall
    have hpre : ∀ {q : Prop}, e.need = some (andO (match cm.pre with | some q => some (q x) | none => none) q) → (∀ q, cm.pre = some q → q x) ∧ q := fun {q} hq => by
      have := h.need _ hq
      cases hp : cm.pre with
      | none => rw [hp] at this; exact ⟨(fun q hq => by cases hq), this⟩
      | some g => rw [hp] at this; exact ⟨(fun q hq => by cases hq; exact this.1), this.2⟩
    have hcall : ∀ (hpre : ∀ q, cm.pre = some q → q x), _ := fun hpre => hok x w (XA φ m) args cv h.hw (fun b p hX => ⟨live_lt h.sat hX, h.fr.gl ▸ XA_gl h.sat hX⟩) hpre hsh (dec_ok hx hcv)
    cases hnw : cm.nw with
    | true =>
      rw [hnw] at hev
      simp only [Option.some.injEq] at hev
      subst hev
      obtain ⟨hpr, hsome⟩ := hpre rfl
      obtain ⟨y, hy⟩ := Option.isSome_iff_exists.1 hsome
      unfold Oper.wp
      rw [hrun, Oper.upon_enter]
      refine (hcall hpr).mono fun e' w' ⟨hb, hm⟩ => ?_
      rw [hy] at hm
      obtain ⟨b, us, T, rfl, hge, hh, htr⟩ := hm
      show K (a.put o.dst _) w'
      rw [hd]
      refine h.next _ _ ?_
      have hlt : b < w'.heap.size := (Array.getElem?_eq_some_iff.1 hh).1
      have h4 := h.sat.newKey (d := d) (b := b) (p := 0) (bx := .cells (enc cm.q ((cm.F x).1.getD cm.q.dflt))) hnone hb (fun _ => hge) (fun _ => hlt) (fun m' h5 _ h7 h8 => ⟨b, us, T, h5, hh, by
        rw [hy]
        exact enc_ok (htr.mono keeps_same (fun b' q _ hx => (h8 b' q hx).imp id And.right) _ _ _)⟩)
      rw [apply_put, applyB_one]
      exact ⟨_, h4.put (h.dst d hd).1 (h.dst d hd).2 h.tags ⟨_, rfl, ⟨b, by simp, rfl⟩, rfl, trivial⟩⟩
    | false =>
      rw [hnw] at hev
      simp only [Option.some.injEq] at hev
      subst hev
      obtain ⟨hpr, hsome⟩ := hpre rfl
      unfold Oper.wp
      rw [hrun, Oper.upon_enter]
      refine (hcall hpr).mono fun e' w' ⟨hb, hm⟩ => ?_
      cases hy : (cm.F x).1 with
      | some y => rw [hy] at hsome; cases hsome
      | none =>
        rw [hy] at hm
        subst hm
        show K (a.put o.dst _) w'
        rw [hd]
        refine h.next _ _ ?_
        exact ⟨_, (h.sat.ext hb).put (h.dst d hd).1 (h.dst d hd).2 h.tags ⟨_, rfl, rfl, rfl, trivial⟩⟩
  | pw cw =>
    simp only [evZ, evPw] at hev
    split at hev
    case h_2 => cases hev
    rename_i k xs1
    split at hev
    case h_2 => cases hev
    rename_i c xs hbx hxs0 hnone
    split at hev
    case h_2 => cases hev
    rename_i l j ow cs hap hcs
    split at hev
    case h_2 => cases hev
    rename_i x hx
    obtain ⟨hc, hev⟩ := cnd_some hev
    obtain ⟨hz, hdk⟩ := andd_true hc
    have hdk : d ≠ k := fun e => by subst e; have := nott_true hdk; simp at this
    simp only [Option.some.injEq] at hev
    subst hev
    obtain ⟨al⟩ := args
    cases al with
    | nil => exact hxs.elim
    | cons v0 rest =>
      obtain ⟨⟨b, hmk, hv0⟩, hxs1⟩ := hxs
      subst hv0
      have hall := unvSs_ok h.sat hxs0 hxs1 (ks := vksS xs1) (fun _ k hk => hk)
      rw [Xc_frz h.sat hz] at hall
      obtain ⟨cv, hsh, hcv⟩ := shapes_ok hcs hall
      obtain ⟨b1, vs, T0, hm1, hh, hcr⟩ := h.sat.box k _ hbx
      rw [hmk] at hm1
      cases hm1
      obtain ⟨v, rfl⟩ : ∃ v, vs = #[v] := by
        obtain ⟨vl⟩ := vs
        match vl, hcr with
        | [v], _ => exact ⟨v, rfl⟩
      have hcr : CR m (XA φ m) w c v := hcr.1
      have hpre : ∀ q, cw.pre = some q → q x l := fun q hq => h.need (q x l) (by simp [hq])
      obtain ⟨rb, p, hrow, hj, hj0⟩ : ∃ rb p, RowIn (XA φ m) w b rb p cw.el T0 v l ∧ (∀ k0, j = some k0 → (∃ ow T e l, st.box k0 = some (.vec ow T e l)) ∧ m k0 = some (rb, p)) ∧ (j = none → p % 2 = 1) := by
        rcases apSrc_spec hap with ⟨rfl, rfl, rfl⟩ | ⟨e1, k0, rfl, rfl, hen, hbk⟩
        · obtain ⟨hlr, hex⟩ := hcr
          rcases hex with ⟨rfl, rfl⟩ | ⟨hne, rb, T, rfl, hshp⟩
          · exact ⟨0, 1, ⟨hh, ⟨0, 1, by simp [mapR], by omega, .inl ⟨rfl, rfl⟩⟩, ⟨0, 1, by simp [mapR], .inl ⟨rfl, rfl⟩⟩, fun h => by omega⟩, (fun k0 hk => by cases hk), fun _ => rfl⟩
          · obtain ⟨hrows, hmax⟩ : RowsOk w (XA φ m) (Ty.int .u8).n (TR w (XA φ m) (.int .u8)) l rb 0 ∧ l.length ≤ maxLen := by
              rcases hlr with ⟨h4, _⟩ | ⟨ad, cap, h4, h5, h6, _, h7⟩
              · exact absurd h4 hne
              · cases h4; exact ⟨h7, h6⟩
            refine ⟨rb, 2 * l.length + 3, ⟨hh, ⟨rb, 2 * l.length + 3, by simp [mapR], by omega, .inr ⟨by omega, l.length, T, by rw [vlen_dead], hshp, by rw [vlen_dead]; omega, hmax⟩⟩, ⟨rb, 2 * l.length + 3, by simp [mapR], .inr (.inr ⟨rfl, rfl, hrows, T, hshp⟩)⟩, fun h => by omega⟩, (fun k0 hk => by cases hk), fun _ => by omega⟩
        · obtain ⟨rb, p, hm2, hpos, hval⟩ := hcr
          obtain ⟨rb2, p2, hm3, hrow⟩ := h.sat.box k0 _ hbk
          rw [hm2] at hm3
          cases hm3
          refine ⟨rb, p, ⟨hh, ⟨rb, p, by simp [mapR], hpos, ?_⟩, ⟨rb, p, by simp [mapR], ?_⟩, fun hp => ⟨fun e => ?_, h.sat.low _ _ _ hm2 hp⟩⟩, (fun k1 hk => by cases hk; exact ⟨⟨_, _, _, _, hbk⟩, hm2⟩), fun hk => by cases hk⟩
          · rcases hval with hval | ⟨h1, cap, T, h2, h3, h4, h5⟩
            · exact .inl hval
            · exact .inr ⟨h1, cap, T, h2, by rw [h3, hen], h4, h5⟩
          · rcases hrow with h1 | h1 | ⟨h1, h2, h3, h4⟩
            · exact .inl h1
            · exact .inr (.inl h1)
            · exact .inr (.inr ⟨rfl, h2, h3, h4⟩)
          · subst e
            have := h.sat.inj _ _ _ _ _ hmk hm2 rfl hp
            subst this
            rw [hbx] at hbk
            cases hbk
      have hXr : p % 2 = 0 → ∀ q, XA φ m rb q := fun hp q => by
        cases hjj : j with
        | none => have := hj0 hjj; omega
        | some k0 => exact .inr ⟨k0, p, (hj k0 hjj).2, hp⟩
      unfold Oper.wp
      rw [hrun, Oper.upon_enter]
      refine (hok x l w (XA φ m) rest cv b rb p T0 v h.hw (fun b p hX => ⟨live_lt h.sat hX, h.fr.gl ▸ XA_gl h.sat hX⟩) hpre hsh (dec_ok hx hcv) (fun q => .inr ⟨k, 0, hmk, rfl⟩) hXr hrow).mono fun e' w' ⟨he', hBB, rb', p', v', hin, hlive⟩ => ?_
      subst he'
      show K (a.put o.dst _) w'
      rw [hd]
      refine h.next _ _ ?_
      obtain ⟨m', hs'⟩ := h.sat.writeRow hnone hbx hmk hdk hj hj0 hBB hin hlive
      rw [apply_put]
      exact ⟨m', hs'.put (h.dst d hd).1 (h.dst d hd).2 h.tags ⟨_, rfl, trivial⟩⟩
theorem ok_callF {c : Call} (hop : o.op = .call c) {f : FuncId} (hcal : c.callee = .value (.func f)) (h : At P C φ ν own W st o e m a w K) : o.wp P a w K Q := by
  have he := h.ev
  simp only [evOp, hop, hcal] at he
  split at he
  · rename_i xt hxt
    split at he
    case h_2 => cases he
    rename_i x hargs
    split at he
    case h_2 => cases he
    rename_i cx hx
    split at he
    case h_2 => cases he
    rename_i r hr
    have hu := opndc_ok h.sat h.tags hx
    have hok := h.ctx.xt f xt hxt
    have hargs' : c.args.map a.eval = #[a.eval x] := by apply Array.ext'; simp [hargs]
    have hrun : ∀ v, (callFunc f #[a.eval x]).run P w = .ok (.value v) w → (execOp a.eval o).run P w = .ok (.value v) w := by
      intro v hv
      simp only [execOp, hop, resolve, hcal, Act.eval, Deferred.ofValue, Sem.run_bind, Sem.run_pure, Result.andThen_ok, invoke]
      simp only [hargs', Array.append_empty]
      exact hv
    unfold xtOp at hr
    split at hr
    · cases hr
      have hu : a.eval x = .float .f64 _ := hu
      refine h.out0 he (hrun _ ?_) rfl
      rw [hu]
      exact hok _ w
    · cases hr
      have hu : a.eval x = .int .u64 _ := hu
      refine h.out0 he (hrun _ ?_) rfl
      rw [hu]
      exact hok _ w
    · cases hr
  split at he
  · rename_i z hz
    split at he
    case h_2 => cases he
    rename_i d xs0 hd hxs0
    obtain ⟨hok, fn, hfn, hname, hbody⟩ := h.ctx.zk f z hz
    refine ok_z (args := c.args.map a.eval) he hd (by simpa using allSV_ok h.sat h.tags hxs0) ?_ hok h
    simp only [execOp, hop, resolve, hcal, Act.eval, Deferred.ofValue, Sem.run_bind, Sem.run_pure, Result.andThen_ok, invoke]
    rw [run_callF hfn hname hbody]
    simp [Act.eval]
  split at he
  · rename_i cp hcp
    split at he
    case h_2 => cases he
    rename_i d xs0 hd hxs0
    obtain ⟨hok, fn, hfn, hname, hbody⟩ := h.ctx.pg f cp hcp
    refine ok_ptr (args := c.args.map a.eval) he hd (by simpa using allSV_ok h.sat h.tags hxs0) ?_ hok h
    simp only [execOp, hop, resolve, hcal, Act.eval, Deferred.ofValue, Sem.run_bind, Sem.run_pure, Result.andThen_ok, invoke]
    rw [run_callF hfn hname hbody]
    simp [Act.eval]
  split at he
  case h_2 => cases he
  rename_i ct d hct hd
  split at he
  case h_2 => cases he
  rename_i xs0 hxs0
  split at he
  case h_2 => cases he
  rename_i xs hxs
  split at he
  case h_2 => cases he
  rename_i cs hcs
  split at he
  case h_2 => cases he
  rename_i x hx
  obtain ⟨hok, fn, hfn, hname, hbody⟩ := h.ctx.Γ f ct hct
  have hall := unvSs_ok h.sat hxs (allSV_ok h.sat h.tags hxs0) (ks := vksS xs0) (fun _ k hk => hk)
  obtain ⟨cv, hsh, hcv⟩ := shapes_ok hcs hall
  have hrun : (execOp a.eval o).run P w = .ok (.enter f (c.args.map a.eval)) w := by
    simp only [execOp, hop, resolve, hcal, Act.eval, Deferred.ofValue, Sem.run_bind, Sem.run_pure, Result.andThen_ok, invoke]
    rw [run_callF hfn hname hbody]
    simp [Act.eval]
  have hcall : ∀ (hpre : ∀ q, ct.pre = some q → q x), _ := fun hpre => hok x w (Xc φ m (vksS xs0)) (c.args.map a.eval) cv h.hw (fun b p hX => ⟨live_lt h.sat hX.1, h.fr.gl ▸ XA_gl h.sat hX.1⟩) hpre (by simpa using hsh) (dec_ok hx hcv)
  split at he
  · rename_i hfr
    split at he
    case h_2 => cases he
    rename_i tv htv
    obtain ⟨hc, he⟩ := cnd_some he
    simp only [Option.some.injEq] at he
    subst he
    have hpre : ∀ q, ct.pre = some q → q x := fun q hq => h.need (q x) (by simp [hq])
    unfold Oper.wp
    rw [hrun, Oper.upon_enter]
    refine (hcall hpre).mono fun e' w' ⟨v, he', hb, cv', h1, _, h2⟩ => ?_
    subst he'
    show K (a.put o.dst v) w'
    rw [hd]
    have h3 : TR w' (XA φ m) ct.r (ct.F x) cv' := by
      rcases orr_true hc with hc | hc
      · have hX : Xc φ m (vksS xs0) = XA φ m := Xc_frz h.sat hc
        rw [← hX]; exact h1
      · exact TR.nosl (nott_true hc) h1
    exact h.next _ _ ⟨m, (h.sat.ext hb).put (h.dst d hd).1 (h.dst d hd).2 h.tags (mkRes_ok htv (enc_ok h3) h2)⟩
  · rename_i T hfr0
    have hfr : ct.fresh = some T := by
      unfold frO at hfr0
      split at hfr0
      · exact hfr0
      · cases hfr0
    split at he
    case h_2 => cases he
    rename_i ety l tv hl1 htv hnone
    obtain ⟨hc, he⟩ := cnd_some he
    obtain ⟨hc1, hc2⟩ := andd_true hc
    obtain ⟨hc2, hc3⟩ := andd_true hc2
    have hnsl := nott_true hc1
    have hn : 1 ≤ ety.n := Nat.le_of_ble_eq_true hc2
    have hlsts := beq_eq hc3
    obtain ⟨o', T', he, hT', hkind⟩ : ∃ o' T', e = ⟨(match ct.pre with | some q => some (q x) | none => none), some (d, tv), [(d, some (.vec o' T' ety l))]⟩ ∧
        T' = unB T ∧ ((Nat.ble big T = false ∧ o' = true) ∨ (Nat.ble big T = true ∧ o' = false ∧ allFz st (vksS xs0) = true)) := by
      cases hB : Nat.ble big T with
      | true =>
        rw [hB] at he
        obtain ⟨hz, he⟩ := cnd_some he
        simp only [Option.some.injEq] at he
        exact ⟨false, _, he.symm, rfl, .inr ⟨rfl, rfl, hz⟩⟩
      | false =>
        rw [hB] at he
        simp only [cnd, Option.some.injEq] at he
        exact ⟨true, T, he.symm, by unfold unB; rw [hB]; rfl, .inl ⟨rfl, rfl⟩⟩
    subst he
    have hpre : ∀ q, ct.pre = some q → q x := fun q hq => h.need (q x) (by simp [hq])
    unfold Oper.wp
    rw [hrun, Oper.upon_enter]
    refine (hcall hpre).mono fun e' w' ⟨v, he', hb, cv', h1, h1f, h2⟩ => ?_
    subst he'
    show K (a.put o.dst v) w'
    rw [hd]
    have hfc := enc_fresh h1 (h1f T hfr)
    obtain ⟨u, tl, hu, hall⟩ := fresh_split (d := d) hfc hlsts hl1
    have fin : ∀ (b p : Nat), (p % 2 = 0 → w.heap.size ≤ b ∧ b < w'.heap.size) → (∀ m', m' d = some (b, p) → NoMore w (XA φ m) (XA φ m') → (∀ b' q, XA φ m' b' q → XA φ m b' q ∨ p % 2 = 0) → BoxOk m' (XA φ m') w' d (.vec o' T' ety l)) → (∀ m', m' d = some (b, p) → CR m' (XA φ m') w' (.vref ety d) u) → K (a.put (some d) v) w' := by
      intro b p hbp hbx hcr
      refine h.next _ _ ?_
      have h4 := h.sat.newKey (bx := .vec o' T' ety l) hnone hb (fun hp => (hbp hp).1) (fun hp => (hbp hp).2) (fun m' h5 _ h7 h8 => hbx m' h5 h7 (fun b' q hx => (h8 b' q hx).imp id And.left))
      rw [apply_put, applyB_one]
      exact ⟨_, h4.put (h.dst d hd).1 (h.dst d hd).2 h.tags (mkRes_ok htv (hall _ _ (hcr _ (by simp))) h2)⟩
    rcases hu with ⟨hu, rfl⟩ | ⟨b, cap, us, hu, hnb, hrow, hsz, hcap, hmax, hrows⟩ | ⟨hB, b, cap, T9, hu, hsh, hceq, hcap, hmax, hrows⟩
    · exact fin 0 1 (fun hp => by omega) (fun m' h5 _ _ => ⟨_, _, h5, .inl ⟨rfl, rfl⟩⟩) (fun m' h5 => ⟨_, _, h5, by omega, .inl ⟨rfl, hu⟩⟩)
    · obtain ⟨z9, hh, hz9⟩ : RowBlk w' b us T' := by rw [hT']; exact hrow
      have hblt : b < w'.heap.size := (Array.getElem?_eq_some_iff.1 hh).1
      refine fin b (2 * l.length + 2) (fun _ => ⟨hnb, hblt⟩) (fun m' h5 _ _ => ⟨_, _, h5, .inr (.inl ⟨rfl, us, cap, ⟨z9, hh, hz9⟩, hsz, hcap, hmax, fun i hi => ?_⟩)⟩)
        (fun m' h5 => ⟨_, _, h5, by omega, .inr ⟨by omega, cap, T', by rw [vlen_live]; exact hu, by unfold World.shape?; rw [hh]; simp [hsz], by rw [vlen_live]; exact hcap, hmax⟩⟩)
      obtain ⟨vs, hvl, hvc, hvr⟩ := hrows i hi
      have him : i * ety.n + ety.n ≤ us.size := by rw [hsz, ← Nat.succ_mul]; exact Nat.mul_le_mul_right _ (by omega)
      have : (us.toList.drop (i * ety.n)).take ety.n = vs := by
        apply List.ext_getElem?
        intro j
        rw [chunk_get]
        split
        · rename_i hj
          have := hvc j hj
          rw [cell_heap hh, Nat.zero_add] at this
          rw [Array.getElem?_toList, this, List.getD_eq_getElem?_getD, List.getElem?_eq_getElem (show j < vs.length by omega)]
          rfl
        · rw [List.getElem?_eq_none (by omega)]
      rw [this]
      exact TR.nosl hnsl hvr
    · rcases hkind with ⟨k1, _⟩ | ⟨_, rfl, hfz⟩
      · rw [k1] at hB; cases hB
      · have hX : Xc φ m (vksS xs0) = XA φ m := Xc_frz h.sat hfz
        rw [hX] at hrows
        have hodd : ∀ n : Nat, ¬ (2 * n + 3) % 2 = 0 := fun n => by omega
        refine fin b (2 * l.length + 3) (fun hp => absurd hp (hodd _)) (fun m' h5 h6 h7 => ⟨_, _, h5, .inr (.inr ⟨rfl, rfl, ?_, T9, hsh⟩)⟩)
          (fun m' h5 => ⟨_, _, h5, by omega, .inr ⟨by omega, cap, T9, by rw [vlen_dead]; exact hu, by rw [← hceq]; exact hsh, by rw [vlen_dead]; exact hcap, hmax⟩⟩)
        exact hrows.mono keeps_same (fun b' q _ hx => (h7 b' q hx).resolve_right (hodd _)) (fun x vs hv => TR.nosl hnsl hv)
theorem ok_call {c : Call} (hop : o.op = .call c) (h : At P C φ ν own W st o e m a w K) : o.wp P a w K Q := by
  by_cases hcf : ∃ f, c.callee = .value (.func f)
  · obtain ⟨f, hcf⟩ := hcf
    exact ok_callF hop hcf h
  have he := h.ev
  simp only [evOp, hop] at he
  split at he
  · rename_i f hcal
    exact absurd ⟨f, hcal⟩ hcf
  · rename_i t hcal
    split at he
    case h_3 => cases he
    · rename_i f d xs0 hf hd hxs0
      split at he
      case h_2 => cases he
      rename_i cv xs hcv hxs
      split at he
      case h_2 => cases he
      rename_i cs hcs
      split at he
      case h_2 => cases he
      rename_i x hx
      split at he
      case h_2 => cases he
      rename_i tv htv
      obtain ⟨hc, he⟩ := cnd_some he
      simp only [Option.some.injEq] at he
      subst he
      obtain ⟨g, rfl, hg⟩ := h.need _ rfl
      obtain ⟨hok, fn, hfn, hname, hbody⟩ := h.ctx.fv cv hcv g hg
      have hall := unvSs_ok h.sat hxs (allSV_ok h.sat h.tags hxs0) (ks := vksS xs0) (fun _ k hk => hk)
      obtain ⟨cv', hsh, hcvr⟩ := shapes_ok hcs hall
      have hfv : a.eval (.tmp t) = .func (.func g) #[] #[] := opndc_ok h.sat h.tags hf
      have hrun : (execOp a.eval o).run P w = .ok (.enter g (c.args.map a.eval)) w := by
        simp only [execOp, hop, resolve, hcal, hfv, Deferred.ofValue, Sem.run_bind, Sem.run_pure, Result.andThen_ok, invoke]
        rw [run_callF hfn hname hbody]
        simp
      have hcall := hok x w (Xc φ m (vksS xs0)) (c.args.map a.eval) cv' h.hw (fun b p hX => ⟨live_lt h.sat hX.1, h.fr.gl ▸ XA_gl h.sat hX.1⟩) (fun q hq => by cases hq) (by simpa using hsh) (dec_ok hx hcvr)
      unfold Oper.wp
      rw [hrun, Oper.upon_enter]
      refine hcall.mono fun e' w' ⟨v, he', hb, cv2, h1, _, h2⟩ => ?_
      subst he'
      show K (a.put o.dst v) w'
      rw [hd]
      have h3 : TR w' (XA φ m) cv.r (cv.F g x) cv2 := by
        rcases orr_true hc with hc | hc
        · have : vksS xs0 = [] := by cases hv : vksS xs0 with | nil => rfl | cons k r => rw [hv] at hc; cases hc
          have hX : Xc φ m (vksS xs0) = XA φ m := by funext b q; rw [this]; simp [Xc]
          rw [← hX]; exact h1
        · exact TR.nosl (nott_true hc) h1
      exact h.next _ _ ⟨m, (h.sat.ext hb).put (h.dst d hd).1 (h.dst d hd).2 h.tags (mkRes_ok htv (enc_ok h3) h2)⟩
    · rename_i f ks d xs0 hf hd hxs0
      split at he
      case h_2 => cases he
      rename_i cp hcp
      obtain ⟨hok, fn, hfn, hname, hbody⟩ := h.ctx.pg f cp hcp
      obtain ⟨vs, hfv, hvs⟩ := opndc_ok h.sat h.tags hf
      have hcap : ∀ (ks : List Nat) (vs : List Value), All2 (fun k u => ∃ b, m k = some (b, 0) ∧ u = .pointer (some ⟨b, 0, none⟩)) ks vs → All2 (SR m (XA φ m) w) (capS ks) vs := by
        intro ks
        induction ks with
        | nil => intro vs hh; cases vs with | nil => trivial | cons => exact hh.elim
        | cons k ks ih => intro vs hh; cases vs with | nil => exact hh.elim | cons u us => exact ⟨hh.1, ih us hh.2⟩
      refine ok_ptr (args := c.args.map a.eval ++ vs.toArray) he hd ?_ ?_ hok h
      · rw [app_eq]
        simpa using All2.append (allSV_ok h.sat h.tags hxs0) (hcap ks vs hvs)
      · simp only [execOp, hop, resolve, hcal, hfv, Deferred.ofValue, Sem.run_bind, Sem.run_pure, Result.andThen_ok, invoke]
        rw [run_callF hfn hname hbody]
        simp
  · rename_i hcal
    split at he
    case h_2 => cases he
    rename_i s x ts tx k hxy hts hdst
    split at he
    case h_2 => cases he
    rename_i d dx cs cx hD hDx hnone hs hx
    split at he
    case h_3 => cases he
    case h_2 =>
      rename_i el ety hk hty hkx
      split at he
      case h_2 => cases he
      rename_i de l1 j ow l2 hDe h1 h2
      obtain ⟨hc, he⟩ := cnd_some he
      obtain ⟨hc1, hc2⟩ := andd_true hc
      simp only [Option.some.injEq] at he
      unfold strNew at h2
      split at h2
      case h_3 => cases h2
      case h_2 =>
        rename_i kv n _
        split at h2
        case h_2 => cases h2
        rename_i kx hag hst
        simp only [Option.some.injEq] at h2
        subst h2
        obtain ⟨d1, hd1, hpl⟩ := plainTy_spec (t := tx) (ty := .int kx) h.ctx (by simp [plainTy, hDx, hag, hst, cnd])
        simp only [plainOk] at hpl
        subst hpl
        obtain ⟨hn0, hbd⟩ : 0 ≤ n ∧ _ := h.need _ (by rw [← he]; rfl)
        obtain ⟨ht, i, z, hi1, hi2, hi3, hzc, hby, hinfo⟩ := elem_info h.ctx hD hk hty hDe (beq_eq hc2) (Nat.le_of_ble_eq_true hc1)
        have hb2 := hbd.1
        have hb3 := hbd.2
        rw [List.length_replicate] at hb2 hb3
        refine ok_append_src (cx := .int kv n) hop hcal hxy hts hdst hD hnone hs hk hty hDe h1 ?_ (fun _ => rfl) (Nat.le_of_ble_eq_true hc1) (beq_eq hc2) hbd he.symm h
        rw [show a.eval x = .int kv n from opndc_ok h.sat h.tags hx]
        refine srcA_zero hd1 hi1 hi3 hzc (Nat.le_of_ble_eq_true hc1) hn0 ?_ (by omega)
        rw [hby]
        refine Nat.le_trans (Nat.mul_le_mul_right _ (Nat.le_add_left _ l1.length)) (Nat.le_trans hb2 (by decide))
      rename_i sx _
      split at h2
      case h_2 => cases h2
      rename_i hag hst
      obtain ⟨rfl, hl⟩ := castL_eq h2
      simp only at hl
      subst hl
      obtain ⟨d1, hd1, hpl⟩ := plainTy_spec (t := tx) (ty := .str) h.ctx (by simp [plainTy, hDx, hag, hst, cnd])
      simp only [plainOk] at hpl
      subst hpl
      refine ok_append_src (cx := .str sx) hop hcal hxy hts hdst hD hnone hs hk hty hDe h1 ?_ (fun _ => rfl) (Nat.le_of_ble_eq_true hc1) (beq_eq hc2) (h.need _ (by rw [← he]; rfl)) he.symm h
      rw [show a.eval x = .string sx from opndc_ok h.sat h.tags hx]
      exact srcA_str hd1 sx
    rename_i el ety ex hk hty hkx
    split at he
    case h_2 => cases he
    rename_i de l1 j ow l2 hDe h1 h2
    obtain ⟨hc, he⟩ := cnd_some he
    obtain ⟨hc1, hc2⟩ := andd_true hc
    obtain ⟨hc2, hc3⟩ := andd_true hc2
    obtain ⟨hc3, hc4⟩ := andd_true hc3
    simp only [Option.some.injEq] at he
    exact ok_append hop hcal hxy hts hdst hD hDx hnone hs hx hk hty hkx hDe h1 h2 (beq_eq hc1) (Nat.le_of_ble_eq_true hc3) (beq_eq hc4) he.symm h
  · rename_i hcal
    split at he
    case h_2 => cases he
    rename_i s x ts tx k hxy hts hdst
    split at he
    case h_2 => cases he
    rename_i d dx e0 j cx hD hDx hs hx
    split at he
    case h_2 => cases he
    rename_i el ex T ety l hk hkx hbx
    split at he
    case h_2 => cases he
    rename_i de l2 hDe h2
    obtain ⟨hc, he⟩ := cnd_some he
    obtain ⟨hc1, hc2⟩ := andd_true hc
    obtain ⟨hc2, hc3⟩ := andd_true hc2
    simp only [Option.some.injEq] at he
    exact ok_copy hop hcal hxy hts hdst hD hDx hs hx hk hkx hbx hDe h2 (beq_eq hc2) (beq_eq hc3) (Nat.le_of_ble_eq_true hc1) he.symm h
  · rename_i hcal
    split at he
    case h_2 => cases he
    rename_i x ty rest hx ht
    split at he
    case h_2 => cases he
    rename_i d hD
    have hrun : ∀ u, (Builtin.len_ c.argTypes o.type #[a.eval x]).run P w = .ok u w → (execOp a.eval o).run P w = .ok (.value u) w := by
      intro u hu
      have hargs : c.args.map a.eval = #[a.eval x] := by apply Array.ext'; simp [hx]
      simp only [execOp, hop, resolve, hcal, Sem.run_bind, Sem.run_pure, Result.andThen_ok, invoke, builtin, hargs, hu]
    have hat : c.argTypes[0]? = some ty := by rw [← Array.getElem?_toList, ht]; rfl
    obtain ⟨e0, hde, hkd, hpl⟩ := (h.ctx.D ty d hD).desc
    split at he
    · rename_i el tl' l' ll hk hxx
      unfold kindOk at hkd
      rw [hk] at hkd
      obtain ⟨_, rfl, _⟩ := hkd
      obtain ⟨hl, _⟩ := opndc_ok h.sat h.tags hxx
      refine h.out0 he (v := .int .i64 _) (hrun _ ?_) rfl
      rcases hl with ⟨h0, hu⟩ | ⟨ad, cap, hu, _⟩
      · rw [hu, run_len_sl hat hde, h0]; rfl
      · rw [hu, run_len_sl hat hde]
    · rename_i el e0 k0 hk hxx
      unfold kindOk at hkd
      rw [hk] at hkd
      obtain ⟨_, rfl, _⟩ := hkd
      have hv := opndc_ok h.sat h.tags hxx
      have main : ∀ n : Nat, (∀ b p, m k0 = some (b, p) → vlen p = n) → outE o none (.one (.int .i64 (n : Int))) = some e → o.wp P a w K Q := by
        intro n hn he
        refine h.out0 he (v := .int .i64 (n : Int)) (hrun _ ?_) rfl
        obtain ⟨b, p, hm, hp, hval⟩ := hv
        have := hn b p hm
        rcases hval with ⟨h1, hu⟩ | ⟨_, cap, T, hu, _⟩
        · rw [h1] at this; simp [vlen] at this; subst this
          rw [hu, run_len_sl hat hde]
        · rw [hu, run_len_sl hat hde, this]
      split at he
      · rename_i ow T ee l hbx; exact main _ (vec_len h.sat hbx) he
      · rename_i ee l hbx; exact main _ (frz_len h.sat hbx) he
      · cases he
    · rename_i s hk hag hty hxx
      have hu : a.eval x = .string s := opndc_ok h.sat h.tags hxx
      have hpl := hpl hag
      rw [hty] at hpl
      simp only [plainOk] at hpl
      subst hpl
      refine h.out0 he (v := .int .i64 _) (hrun _ ?_) rfl
      rw [hu, run_len_str hat hde]
    · cases he
  · rename_i hcal
    split at he
    case h_2 => cases he
    rename_i x y hxy
    split at he
    case h_2 => cases he
    rename_i cx cy hx hy
    split at he
    case h_2 => cases he
    rename_i r hr
    unfold minC at hr
    split at hr
    case h_2 => cases hr
    rename_i k i k' j
    obtain ⟨hk, hr⟩ := cnd_some hr
    simp only [Option.some.injEq] at hr
    subst hr
    have hX : a.eval x = .int k i := opndc_ok h.sat h.tags hx
    have hY : a.eval y = .int k' j := opndc_ok h.sat h.tags hy
    have hargs : c.args.map a.eval = #[.int k i, .int k' j] := by apply Array.ext'; simp [hxy, hX, hY]
    refine h.out0 he (v := .int k (min i j)) ?_ rfl
    simp only [execOp, hop, resolve, hcal, Sem.run_bind, Sem.run_pure, Result.andThen_ok, invoke, builtin, hargs, ok_min_int]
  · rename_i hcal
    split at he
    · rename_i x y hxy
      split at he
      case h_2 => cases he
      rename_i cx cy hx hy
      split at he
      case h_2 => cases he
      rename_i r hr
      unfold minC at hr
      split at hr
      case h_2 => cases hr
      rename_i k i k' j
      obtain ⟨hk, hr⟩ := cnd_some hr
      simp only [Option.some.injEq] at hr
      subst hr
      have hX : a.eval x = .int k i := opndc_ok h.sat h.tags hx
      have hY : a.eval y = .int k' j := opndc_ok h.sat h.tags hy
      have hargs : c.args.map a.eval = #[.int k i, .int k' j] := by apply Array.ext'; simp [hxy, hX, hY]
      refine h.out0 he (v := .int k (max i j)) ?_ rfl
      simp only [execOp, hop, resolve, hcal, Sem.run_bind, Sem.run_pure, Result.andThen_ok, invoke, builtin, hargs, ok_max_int]
    · rename_i x y z hxy
      split at he
      case h_2 => cases he
      rename_i cx cy cz hx hy hz
      split at he
      case h_2 => cases he
      rename_i q hq
      split at he
      case h_2 => cases he
      rename_i r hr
      unfold minC at hq
      split at hq
      case h_2 => cases hq
      rename_i k i k' j
      obtain ⟨hk, hq⟩ := cnd_some hq
      simp only [Option.some.injEq] at hq
      subst hq
      unfold minC at hr
      split at hr
      case h_2 => cases hr
      rename_i k1 i1 k2 j2 heq
      obtain ⟨hk2, hr⟩ := cnd_some hr
      simp only [Option.some.injEq] at hr
      subst hr
      cases heq
      have hX : a.eval x = .int k i := opndc_ok h.sat h.tags hx
      have hY : a.eval y = .int k' j := opndc_ok h.sat h.tags hy
      have hZ : a.eval z = .int k2 j2 := opndc_ok h.sat h.tags hz
      have hargs : c.args.map a.eval = #[.int k i, .int k' j, .int k2 j2] := by apply Array.ext'; simp [hxy, hX, hY, hZ]
      refine h.out0 he (v := .int k (max (max i j) j2)) ?_ rfl
      simp only [execOp, hop, resolve, hcal, Sem.run_bind, Sem.run_pure, Result.andThen_ok, invoke, builtin, hargs, ok_max_int3]
    · cases he
  · cases he
theorem run_bound {x : Operand} {k : IntKind} {n : Int} {y : Nat} {code : BoundsCode} (hx : a.eval x = .int k n) (h0 : 0 ≤ n) (h1 : n ≤ (y : Int)) : (Instr.sliceBound (a.eval x) y code).run P w = .ok n.toNat w := by
  simp only [Instr.sliceBound, hx, asIntOf, Sem.run_bind, Sem.run_pure, Result.andThen_ok]
  rw [if_pos ⟨h0, h1⟩]
  rfl
theorem optI_ok (hs : SatM φ ν m st a w) (ht : holdsTags ν own) {x : Option Operand} {n : Int} (h : optI st own x = some n) : (x = none ∧ n = 0) ∨ ∃ y k, x = some y ∧ a.eval y = .int k n := by
  cases x with
  | none => simp only [optI, Option.some.injEq] at h; exact .inl ⟨rfl, h.symm⟩
  | some y =>
    simp only [optI] at h
    split at h
    · rename_i k n' hy; cases h; exact .inr ⟨y, k, rfl, opndc_ok hs ht hy⟩
    · cases h
theorem optH_ok (hs : SatM φ ν m st a w) (ht : holdsTags ν own) {x : Option Operand} {n0 n : Int} (h : optH st own x n0 = some n) : (x = none ∧ n = n0) ∨ ∃ y k, x = some y ∧ a.eval y = .int k n := by
  cases x with
  | none => simp only [optH, Option.some.injEq] at h; exact .inl ⟨rfl, h.symm⟩
  | some y =>
    simp only [optH] at h
    split at h
    · rename_i k n' hy; cases h; exact .inr ⟨y, k, rfl, opndc_ok hs ht hy⟩
    · cases h
theorem run_sliceBounds (hs : SatM φ ν m st a w) (ht : holdsTags ν own) {isSl : Bool} {lo hi : Option Operand} {l0 h0 : Int} {len cap : Nat} (hlo : optI st own lo = some l0) (hhi : optH st own hi (len : Int) = some h0) (h1 : 0 ≤ l0) (h2 : l0 ≤ h0) (h3 : h0 ≤ (cap : Int)) :
    (Instr.sliceBounds isSl len cap (lo.map a.eval) (hi.map a.eval) none).run P w = .ok (l0.toNat, h0.toNat, cap) w := by
  have hH : h0 = (h0.toNat : Int) := by omega
  rcases optI_ok hs ht hlo with ⟨rfl, rfl⟩ | ⟨y, k, rfl, hy⟩ <;> rcases optH_ok hs ht hhi with ⟨rfl, h4⟩ | ⟨y2, k2, rfl, hy2⟩
  · simp [Instr.sliceBounds, h4]
  · simp [Instr.sliceBounds, run_bound hy2 (by omega) h3]
  · subst h4
    simp [Instr.sliceBounds, run_bound hy h1 h2]
  · simp [Instr.sliceBounds, run_bound hy2 (by omega) h3, run_bound hy h1 (show l0 ≤ (h0.toNat : Int) by omega)]
theorem sliceL_len {α : Type} {l : List α} {lo hi : Int} (h1 : 0 ≤ lo) (h2 : lo ≤ hi) (h3 : hi ≤ (l.length : Int)) : (sliceL l lo hi).length = hi.toNat - lo.toNat := by
  simp [sliceL]; omega
theorem LR.part {α : Type} {X : Nat → Nat → Prop} {n : Nat} {R : α → List Value → Prop} {l : List α} {ad : Addr} {cap : Nat} {lo hi : Int} (h1 : 0 ≤ lo) (h2 : lo ≤ hi) (h3 : hi ≤ (l.length : Int)) (hle : l.length ≤ cap) (hmax : cap ≤ maxLen)
    (hsp : l ≠ [] → ad.spot = none) (hr : RowsOk w X n R l ad.block ad.off) : LR w X n R (sliceL l lo hi) (.slice (some (if cap = lo.toNat then ad else ad.add (lo.toNat * n))) (hi.toNat - lo.toNat) (cap - lo.toNat)) := by
  have hl := sliceL_len h1 h2 h3
  refine .inr ⟨_, _, by rw [hl], by omega, by omega, fun hne => ?_, ?_⟩
  · have hpos : 0 < (sliceL l lo hi).length := List.length_pos_iff.2 hne
    have hl0 : l ≠ [] := by intro h0; subst h0; simp at h3; omega
    rw [if_neg (by omega)]
    obtain ⟨b, o', sp⟩ := ad
    have := hsp hl0
    simp only at this
    subst this
    rw [add_none]
  · by_cases hpos : 0 < (sliceL l lo hi).length
    · have hl0 : l ≠ [] := by intro h0; subst h0; simp at h3; omega
      rw [if_neg (by omega)]
      obtain ⟨b, o', sp⟩ := ad
      have := hsp hl0
      simp only at this
      subst this
      rw [add_none]
      refine ⟨fun i hi' => ?_, fun p hp1 hp2 => ?_⟩
      · obtain ⟨vs, h4, h5, h6⟩ := hr.1 (lo.toNat + i) (by omega)
        refine ⟨vs, h4, fun j hj => ?_, ?_⟩
        · have := h5 j hj
          simp only at this ⊢
          rw [← this]
          congr 2
          rw [Nat.add_mul]; omega
        · have : (sliceL l lo hi)[i] = l[lo.toNat + i]'(by omega) := by simp [sliceL]
          rw [this]; exact h6
      · refine hr.2 p ?_ ?_
        · simp only at hp1 ⊢; omega
        · simp only at hp1 hp2 ⊢
          rw [hl] at hp2
          have : (lo.toNat + (hi.toNat - lo.toNat)) * n ≤ l.length * n := Nat.mul_le_mul_right _ (by omega)
          rw [Nat.add_mul] at this
          omega
    · have h0 : (sliceL l lo hi).length = 0 := by omega
      exact ⟨fun i hi' => by omega, fun p hp1 hp2 => by rw [h0] at hp2; simp at hp2; omega⟩
theorem ok_slice {t : TypeId} {x : Operand} {lo hi mx : Option Operand} (hop : o.op = .slice t x lo hi mx) (h : At P C φ ν own W st o e m a w K) : o.wp P a w K Q := by
  have he := h.ev
  simp only [evOp, hop] at he
  split at he
  case h_2 => cases he
  rename_i d c l0 hD hx hlo
  obtain ⟨e0, hde, hkd, hpl⟩ := (h.ctx.D t d hD).desc
  unfold kindOk at hkd
  have hexec : ∀ {v : Value}, (Instr.sliceAt t (a.eval x) (lo.map a.eval) (hi.map a.eval) none).run P w = .ok v w → (execOp a.eval o).run P w = .ok (.value v) w := by
    intro v hv
    simp only [execOp, hop, Option.map_none, Sem.run_bind, hv, Result.andThen_ok, Sem.run_pure]
  have hv := opndc_ok h.sat h.tags hx
  -- of a slice
  have hsl : ∀ {el : TypeId} {t' : Ty} {ag : Bool} {ad : Option Addr} {n cap : Nat} {h0 : Int}, P.underlying t = some (.slice el) → InfoOk P el t' ag → a.eval x = .slice ad n cap → optH st own hi (n : Int) = some h0 → 0 ≤ l0 → l0 ≤ h0 → h0 ≤ (cap : Int) →
      (execOp a.eval o).run P w = .ok (.value (.slice (if cap = l0.toNat then ad else ad.map (·.add (l0.toNat * t'.n))) (h0.toNat - l0.toNat) (cap - l0.toNat))) w := by
    intro el t' ag ad n cap h0 hu hinfo hx hh h1 h2 h3
    refine hexec ?_
    unfold Instr.sliceAt
    simp only [Sem.run_bind, run_underlying hu, Result.andThen_ok]
    unfold Instr.slice
    simp only [Sem.run_bind, run_underlying hu, Result.andThen_ok, hx]
    rw [run_sliceBounds h.sat h.tags hlo hh h1 h2 h3, Result.andThen_ok]
    simp only [Sem.run_bind, run_sizeOf hinfo, Result.andThen_ok, Sem.run_pure]
  split at he
  · rename_i el e' ety tl l hk hty
    rw [hk] at hkd
    obtain ⟨_, rfl, t', ag, hty', hinfo⟩ := hkd
    rw [hty] at hty'
    cases hty'
    split at he
    case h_2 => cases he
    rename_i h0 hhi
    obtain ⟨hn, he⟩ := cnd_some he
    have hn := beq_eq hn
    obtain ⟨h1, h2, h3⟩ := h.need' he
    rcases hv.1 with ⟨rfl, hu⟩ | ⟨ad, cap, hu, hle, hmax, hsp, hr⟩
    · have hh : h0 = 0 ∧ l0 = 0 := by simp at h3; omega
      obtain ⟨rfl, rfl⟩ := hh
      refine h.out0 he (v := .slice none 0 0) ?_ ⟨.inl ⟨by simp [sliceL], rfl⟩, trivial⟩
      have := hsl hde hinfo hu hhi h1 h2 (by simp)
      rw [this]; rfl
    · have := hsl hde hinfo hu hhi h1 h2 (by omega)
      refine h.out0 he this ⟨?_, trivial⟩
      have hp := LR.part h1 h2 h3 hle hmax hsp hr
      rw [hn] at hp
      by_cases hcl : cap = l0.toNat
      · rw [if_pos hcl] at hp ⊢; rw [hn]; exact hp
      · rw [if_neg hcl] at hp ⊢; rw [hn]; exact hp
  · rename_i el e' ety k hk hty
    rw [hk] at hkd
    obtain ⟨_, rfl, t', ag, hty', hinfo⟩ := hkd
    rw [hty] at hty'
    cases hty'
    obtain ⟨b, p, hm, hp, hval⟩ := hv
    split at he
    · rename_i e2 l hbx
      split at he
      case h_2 => cases he
      rename_i h0 hhi
      obtain ⟨hn, he⟩ := cnd_some he
      obtain ⟨hn, hn2⟩ := andd_true hn
      have hn := beq_eq hn
      have hn2 := beq_eq hn2
      obtain ⟨h1, h2, h3⟩ := h.need' he
      obtain ⟨b', p', h4, h5⟩ := h.sat.box k _ hbx
      rw [hm] at h4
      cases h4
      rcases h5 with ⟨rfl, rfl⟩ | ⟨rfl, hr⟩
      · have hu : a.eval x = .slice none 0 0 := by
          rcases hval with ⟨_, hu⟩ | ⟨hne, _⟩
          · exact hu
          · exact absurd rfl hne
        have hh : h0 = 0 ∧ l0 = 0 := by simp at h3; omega
        obtain ⟨rfl, rfl⟩ := hh
        refine h.out0 he (v := .slice none 0 0) ?_ ⟨.inl ⟨by simp [sliceL], rfl⟩, trivial⟩
        have := hsl hde hinfo hu hhi h1 h2 (by simp)
        rw [this]; rfl
      · obtain ⟨cap, T, hu, hsh, hle, hmax⟩ : ∃ cap T, a.eval x = .slice (some ⟨b, 0, none⟩) l.length cap ∧ w.shape? b = some (T, cap * ety.n) ∧ l.length ≤ cap ∧ cap ≤ maxLen := by
          rcases hval with ⟨h6, _⟩ | ⟨_, cap, T, h6, h7, h8, h9⟩
          · omega
          · rw [vlen_dead] at h6 h8; exact ⟨cap, T, h6, h7, h8, h9⟩
        have := hsl hde hinfo hu hhi h1 h2 (by omega)
        refine h.out0 he this ⟨?_, trivial⟩
        have hq := LR.part (ad := ⟨b, 0, none⟩) h1 h2 h3 hle hmax (fun _ => rfl) hr
        by_cases hcl : cap = l0.toNat
        · rw [if_pos hcl] at hq ⊢; exact hq
        · rw [if_neg hcl] at hq ⊢; rw [show e'.n = e2.n by omega]; exact hq
    · rename_i ow T e2 l hbx
      split at he
      case h_2 => cases he
      rename_i hx2 h0 k2 hdst hhi
      split at he
      case h_2 => cases he
      rename_i hnone
      obtain ⟨hc, he2⟩ := cnd_some he
      obtain ⟨how, hc⟩ := andd_true hc
      obtain ⟨hz, hc⟩ := andd_true hc
      have hz : 1 ≤ ety.n := Nat.le_of_ble_eq_true hz
      obtain ⟨hn, hn2⟩ := andd_true hc
      have hn := beq_eq hn
      have hn2 := beq_eq hn2
      subst how
      have he := Option.some.inj he2
      obtain ⟨h1, h3⟩ := h.need _ (by rw [← he])
      have hl0 : l0 = 0 := by simpa [optI] using hlo.symm
      subst hl0
      obtain ⟨b', p', h4, h5⟩ := h.sat.box k _ hbx
      rw [hm] at h4
      cases h4
      rcases h5 with ⟨rfl, rfl⟩ | ⟨rfl, vs, cap, ⟨z9, hh, hz9⟩, hsz, hcap, hmax, hel⟩ | ⟨h5, _⟩
      · have hu : a.eval x = .slice none 0 0 := by
          rcases hval with ⟨_, hu⟩ | ⟨hne, _⟩
          · exact hu
          · exact absurd rfl hne
        have hh : h0 = 0 := by simp at h3; omega
        subst hh
        have := hsl hde hinfo hu hhi h1 (Int.le_refl _) (by simp)
        refine h.moveRow (j := k) (bx := .vec true T e2 (List.take (Int.toNat 0) [])) (tv := .v (.one (.vref ety k2))) (v := .slice none 0 0) (pd := 1) hdst hnone (by rw [← he]) (by rw [← he]) hbx hm hp (by rw [this]; rfl) keeps_same (fun _ _ => rfl) rfl ⟨rfl, rfl, rfl⟩ rfl (by omega)
          (fun m' h3 h4 h5 => ⟨_, _, h3, .inl ⟨by simp, rfl⟩⟩) (fun m' h3 => ⟨_, _, h3, by omega, .inl ⟨rfl, rfl⟩⟩)
      · obtain ⟨cap2, T2, hu, hsh⟩ : ∃ cap2 T2, a.eval x = .slice (some ⟨b, 0, none⟩) l.length cap2 ∧ w.shape? b = some (T2, cap2 * ety.n) := by
          rcases hval with ⟨h6, _⟩ | ⟨_, cap2, T2, h6, h7, _⟩
          · omega
          · rw [vlen_live] at h6; exact ⟨cap2, T2, h6, h7⟩
        have hlen : (l.take h0.toNat).length = h0.toNat := by rw [List.length_take]; omega
        · have hcc : cap2 = cap := by
            have : w.shape? b = some (T, vs.size) := by unfold World.shape?; rw [hh]
            rw [this] at hsh
            simp only [Option.some.injEq, Prod.mk.injEq] at hsh
            have : cap * ety.n = cap2 * ety.n := by rw [← hn2, ← hsz, hsh.2, hn2]
            exact (Nat.eq_of_mul_eq_mul_right (by omega) this).symm
          subst hcc
          have := hsl hde hinfo hu hhi (Int.le_refl _) h1 (by omega)
          have hv2 : (if cap2 = (0 : Int).toNat then some (⟨b, 0, none⟩ : Addr) else (some (⟨b, 0, none⟩ : Addr)).map (·.add ((0 : Int).toNat * e'.n))) = some ⟨b, 0, none⟩ := by
            split
            · rfl
            · simp [add_none]
          rw [hv2] at this
          refine h.moveRow (j := k) (bx := .vec true T e2 (l.take h0.toNat)) (tv := .v (.one (.vref ety k2))) (pd := 2 * h0.toNat + 2) hdst hnone (by rw [← he]) (by rw [← he]) hbx hm hp this keeps_same (fun _ _ => rfl) rfl ⟨rfl, rfl, rfl⟩ (by omega) (by omega)
            (fun m' h3 h4 h5 => ⟨_, _, h3, .inr (.inl ⟨by rw [hlen], vs, cap2, ⟨z9, hh, hz9⟩, hsz, by rw [hlen]; omega, hmax, fun i hi => ?_⟩)⟩)
            (fun m' h3 => ⟨_, _, h3, by omega, .inr ⟨by omega, cap2, T2, by rw [vlen_live]; simp, hsh, by rw [vlen_live]; omega, hmax⟩⟩)
          have : (l.take h0.toNat)[i] = l[i]'(by rw [hlen] at hi; omega) := by rw [List.getElem_take]
          rw [this]
          exact (hel i (by rw [hlen] at hi; omega)).mono keeps_same h5 _ _ _
      · cases h5
    · cases he
  · rename_i s hk hty
    split at he
    case h_2 => cases he
    rename_i h0 hag hhi
    obtain ⟨h1, h2, h3⟩ := h.need' he
    have hpl := hpl hag
    rw [hty] at hpl
    simp only [plainOk] at hpl
    subst hpl
    have hu : a.eval x = .string s := hv
    refine h.out0 he (hexec ?_) rfl
    unfold Instr.sliceAt
    simp only [Sem.run_bind, run_underlying hde, Result.andThen_ok]
    unfold Instr.slice
    simp only [Sem.run_bind, run_underlying hde, Result.andThen_ok, hu, Option.isSome_none, Bool.false_eq_true, if_false]
    simp only [Sem.run_pure, Result.andThen_ok]
    rw [run_sliceBounds h.sat h.tags hlo hhi h1 h2 h3, Result.andThen_ok]
  · cases he
theorem ok_convert {s d : TypeId} {x : Operand} (hop : o.op = .convert s d x) (h : At P C φ ν own W st o e m a w K) : o.wp P a w K Q := by
  have he := h.ev
  simp only [evOp, hop] at he
  split at he
  · rename_i k0 k k1 n hs hd hx
    have hc : a.eval x = .int k1 n := opndc_ok h.sat h.tags hx
    obtain ⟨d1, h1, h1p⟩ := plainTy_spec h.ctx hs
    obtain ⟨d2, h2, h2p⟩ := plainTy_spec h.ctx hd
    simp only [plainOk] at h1p h2p
    subst h1p h2p
    refine h.out0 he (v := .int k (k.wrap n)) ?_ rfl
    simp only [execOp, hop, hc, convert, Sem.run_bind, run_underlying h1, run_underlying h2, Result.andThen_ok, Conv.intToInt, Sem.run_pure]
  · rename_i k0 k k1 n hs hd hx
    have hc : a.eval x = .int k1 n := opndc_ok h.sat h.tags hx
    obtain ⟨d1, h1, h1p⟩ := plainTy_spec h.ctx hs
    obtain ⟨d2, h2, h2p⟩ := plainTy_spec h.ctx hd
    simp only [plainOk] at h1p h2p
    subst h1p h2p
    refine h.out0 he (v := .float k (k.nearest n)) ?_ rfl
    simp only [execOp, hop, hc, convert, Sem.run_bind, run_underlying h1, run_underlying h2, Result.andThen_ok, Conv.intToFloat, Sem.run_pure]
  · rename_i e0 cx hs hd hx
    split at he
    case h_2 => cases he
    rename_i l hby hl
    obtain ⟨d2, h2, h2p⟩ := plainTy_spec h.ctx hd
    simp only [plainOk] at h2p
    subst h2p
    unfold bytesTy at hby
    split at hby
    case h_2 => cases hby
    rename_i d0 hD
    split at hby
    case h_2 => cases hby
    rename_i el hk
    split at hby
    case h_2 => cases hby
    rename_i hel
    obtain ⟨e1, he1, hk1, _⟩ := (h.ctx.D _ _ hD).desc
    unfold kindOk at hk1
    rw [hk] at hk1
    obtain ⟨_, rfl, _⟩ := hk1
    obtain ⟨e2, he2, he2p⟩ := plainTy_spec h.ctx hel
    simp only [plainOk] at he2p
    subst he2p
    refine h.out0 he (v := .string (bts l)) ?_ rfl
    have hrow := apNew_rows h.sat hl (opndc_ok h.sat h.tags hx)
    have hrun : ∀ (ad : Option Addr) (n cap : Nat), a.eval x = .slice ad n cap → (Conv.bytesToString (.slice ad n cap)).run P w = .ok (.string (bts l)) w → (execOp a.eval o).run P w = .ok (.value (.string (bts l))) w := by
      intro ad n cap hu hb
      simp only [execOp, hop, hu, Sem.run_bind, run_convert_bytes_string w _ _ _ ad n cap he1 he2 h2, hb, Result.andThen_ok, Sem.run_pure]
    rcases hrow with ⟨rfl, hu⟩ | ⟨ad, cap, hu, hsp, hr⟩
    · exact hrun _ _ _ hu (by unfold Conv.bytesToString; rfl)
    · refine hrun _ _ _ hu (run_bytesToString w ad l.length cap l ?_)
      have hnews : ∀ j u, ((l.map (Value.int .u8))[j]? = some u) → w.cell? (ad.add j) = some u := by
        intro j u hju
        simp only [List.getElem?_map, Option.map_eq_some_iff] at hju
        obtain ⟨n, hn, rfl⟩ := hju
        have hj : j < l.length := (List.getElem?_eq_some_iff.1 hn).1
        have hne : l ≠ [] := by intro h0; subst h0; simp at hj
        obtain ⟨vs, hvl, hvc, hvr⟩ := hr j hj
        have hvr : vs = [.int .u8 l[j]] := hvr
        have hc := hvc 0 (by simp [Ty.n])
        have hsp := hsp hne
        obtain ⟨b, o', sp⟩ := ad
        simp only at hsp
        subst hsp
        rw [add_none]
        simp only [Ty.n, Nat.mul_one, Nat.add_zero] at hc
        rw [hc, hvr]
        have : l[j] = n := by
          have := List.getElem?_eq_getElem hj
          rw [this] at hn
          exact Option.some.inj hn
        rw [this]
        rfl
      have := run_loadCells_list (P := P) w ad (l.map (Value.int .u8)) hnews
      simpa using this
  · rename_i ety sx hs hd hx
    split at he
    case h_2 => cases he
    rename_i dd k hD hdst
    split at he
    case h_2 => cases he
    rename_i el l hk hnone hby hl
    simp only [Option.some.injEq] at he
    have hneed := h.need _ (by rw [← he])
    obtain ⟨rfl, hl⟩ := castL_eq hl
    simp only at hl
    subst hl
    have hc : a.eval x = .string sx := opndc_ok h.sat h.tags hx
    obtain ⟨d1, h1, h1p⟩ := plainTy_spec h.ctx hs
    simp only [plainOk] at h1p
    subst h1p
    unfold bytesTy at hby
    split at hby
    case h_2 => cases hby
    rename_i d0 hD0
    rw [hD] at hD0
    simp only [Option.some.injEq] at hD0
    subst hD0
    split at hby
    case h_2 => cases hby
    rename_i el' hk'
    rw [hk] at hk'
    cases hk'
    split at hby
    case h_2 => cases hby
    rename_i hel
    obtain ⟨e1, he1, hk1, _⟩ := (h.ctx.D _ _ hD).desc
    unfold kindOk at hk1
    rw [hk] at hk1
    obtain ⟨_, rfl, _⟩ := hk1
    obtain ⟨e2, he2, he2p⟩ := plainTy_spec h.ctx hel
    simp only [plainOk] at he2p
    subst he2p
    have hmax : grownCap w sx.size 0 el ≤ maxLen := grownCap_le_maxLen w sx.size 0 el (by unfold maxLen; omega)
    have hge : sx.size ≤ grownCap w sx.size 0 el := grownCap_ge w sx.size 0 el
    have hvs : (Lib.bytesCells w el sx).size = grownCap w sx.size 0 el := by
      have : sx.data.size = sx.size := rfl
      simp [Lib.bytesCells, this]; omega
    have hnew := Lib.bytesWorld_at_new w el sx
    have hb : Below w.heap.size w (Lib.bytesWorld w el sx) :=
      ⟨rfl, rfl, rfl, by rw [Lib.bytesWorld_size]; omega, fun k hk => Lib.bytesWorld_at_old w el sx k hk⟩
    refine h.newRow (kl := none) (tv := .v (.one (.vref (.int .u8) k))) (bx := .vec true el (.int .u8) (stb sx)) (p := 2 * sx.size + 2) (b := w.heap.size) (v := .slice (some ⟨w.heap.size, 0, none⟩) sx.size (grownCap w sx.size 0 el)) hdst hnone (by rw [← he]) (by rw [← he]; rfl) (fun j hj => by cases hj)
      (by simp only [execOp, hop, hc, Sem.run_bind, Lib.run_convert_string_bytes w s d el sx h1 he1 he2, Result.andThen_ok, Sem.run_pure]) hb (fun _ => ⟨Nat.le_refl _, by rw [Lib.bytesWorld_size]; omega⟩)
      (fun m' h4 h5 h6 => ⟨_, _, h4, .inr (.inl ⟨by rw [stb_length], _, grownCap w sx.size 0 el, ⟨_, hnew, .inr rfl⟩, by rw [hvs]; simp [Ty.n], by rw [stb_length]; exact hge, hmax, fun i hi => ?_⟩)⟩)
      (fun m' h4 => ⟨_, _, h4, by omega, .inr ⟨by omega, grownCap w sx.size 0 el, el, by rw [vlen_live], by unfold World.shape?; rw [hnew]; simp [hvs, Ty.n], by rw [vlen_live]; exact hge, hmax⟩⟩)
    rw [stb_length] at hi
    show List.take 1 ((Lib.bytesCells w el sx).toList.drop (i * 1)) = [Value.int .u8 (stb sx)[i]]
    have hlen : i < (Lib.bytesCells w el sx).toList.length := by rw [Array.length_toList, hvs]; omega
    rw [Nat.mul_one, List.drop_eq_getElem_cons hlen]
    have hi2 : i < sx.data.size := hi
    have h7 : (Lib.bytesCells w el sx).toList[i] = Value.int .u8 (stb sx)[i] := by
      simp only [Lib.bytesCells, stb, Array.toList_append, Array.toList_map, Array.toList_replicate]
      rw [List.getElem_append_left (by simpa using hi2)]
      simp
    rw [h7]; rfl
  · cases he
theorem boxKs_vals {X : Nat → Nat → Prop} {xs : List SV} {vs : List Value} {ks : List Nat} (h : boxKs xs = some ks) (ha : All2 (SR m X w) xs vs) : All2 (fun k v => ∃ b, m k = some (b, 0) ∧ v = .pointer (some ⟨b, 0, none⟩)) ks vs := boxKs_ok h ha
theorem ok_makeFunc {f : Fn} {first caps : Array Operand} (hop : o.op = .makeFunc f first caps) (h : At P C φ ν own W st o e m a w K) : o.wp P a w K Q := by
  have he := h.ev
  cases f with
  | func g =>
    simp only [evOp, hop] at he
    split at he
    case h_2 => cases he
    rename_i xs hfirst hxs
    split at he
    case h_2 => cases he
    rename_i ks hks
    have hall := boxKs_ok hks (allSV_ok h.sat h.tags hxs)
    have hf : first = #[] := by apply Array.ext'; simpa using hfirst
    subst hf
    refine h.out0 he (v := .func (.func g) #[] (caps.toList.map a.eval).toArray) ?_ ⟨_, rfl, hall⟩
    simp only [execOp, hop, Instr.makeFunc, Sem.run_bind, Sem.run_pure, Result.andThen_ok]
    rw [show Array.map a.eval caps = (List.map a.eval caps.toList).toArray from by apply Array.ext'; simp]
    simp
  | _ => simp only [evOp, hop] at he; cases he
theorem op_ok (h : At P C φ ν own W st o e m a w K) : o.wp P a w K Q := by
  cases hop : o.op with
  | move x => exact ok_move hop h
  | assign x => exact ok_assign hop h
  | pick c x y => exact ok_pick hop h
  | alloc t => exact ok_alloc hop h
  | box t x => exact ok_box hop h
  | build t ps => exact ok_build hop h
  | buildSlice t n ps => exact ok_buildSlice hop h
  | load t x => exact ok_load hop h
  | store t x y => exact ok_store hop h
  | nilCheck x => exact ok_nilCheck hop h
  | binOp op t x y yt => exact ok_binOp hop h
  | unOp op t x => exact ok_unOp hop h
  | convert s d x => exact ok_convert hop h
  | fieldAddr t x f => exact ok_fieldAddr hop h
  | field t x f => exact ok_field hop h
  | indexAddr t x i => exact ok_indexAddr hop h
  | index t x i => exact ok_index hop h
  | extract x i => exact ok_extract hop h
  | makeSlice t x y => exact ok_makeSlice hop h
  | slice t x lo hi mx => exact ok_slice hop h
  | call c => exact ok_call hop h
  | makeFunc f x y => exact ok_makeFunc hop h
  | _ => have he := h.ev; simp only [evOp, hop] at he; cases he
end
end Go.Proofs.Ytbnihoioblmgkaa.Sy
end

section
/- The symbolic evaluator is sound: regions (own work). -/
namespace Go.Proofs.Ytbnihoioblmgkaa.Sy
open Go Go.RowKit
set_option linter.unusedVariables false
set_option linter.unusedSimpArgs false
section
variable {φ : Fr} {ν ν' : Nat → Bool} {m : Map} {st : ASt} {a : Act} {w w' : World} {own : List (Nat × Bool)} {W : List Nat} {P : Program} {C : Ctx} {o : Oper} {e : Eff}
  {K : Act → World → Prop} {Q : Exit → Act → World → Prop}
structure RegM (φ : Fr) (ν : Nat → Bool) (m : Map) (W : List Nat) (st : ASt) (a : Act) (w : World) : Prop where
  sat : SatM φ ν m st a w
  tags : ∀ t g, st.slot t = some g → ∀ x ∈ g.tags, x.1 ∈ W
  yes : ∀ d, d ∈ W → ∀ g c, st.slot d = some g → g.tv = .v (.one (.bool c)) → ν d = c
theorem holdsTags_congr {g : List (Nat × Bool)} (hg : ∀ x ∈ g, ν x.1 = ν' x.1) : holdsTags ν g ↔ holdsTags ν' g :=
  ⟨fun h x hx => (hg x hx).symm.trans (h x hx), fun h x hx => (hg x hx).trans (h x hx)⟩
theorem SatM.re (h : SatM φ ν m st a w) (hν : ∀ t g, st.slot t = some g → ∀ x ∈ g.tags, ν x.1 = ν' x.1) : SatM φ ν' m st a w :=
  { h with
    slot := fun t g hg ht => h.slot t g hg ((holdsTags_congr (hν t g hg)).2 ht)
    skip := fun t g hg ht => h.skip t g hg fun hh => ht ((holdsTags_congr (hν t g hg)).1 hh) }
theorem apply_slot {tv : TV} {bx : List (Nat × Option Bx)} {p : Option Prop} {d t : Nat} :
    ((Eff.mk p (some (d, tv)) bx).apply own st).slot t = if t = d then some ⟨own, tv⟩ else st.slot t := by
  show cnd (Nat.beq t d) _ _ = _
  by_cases h : t = d
  · rw [cnd_beq_true h, if_pos h]
  · rw [cnd_beq_false h, if_neg h]
theorem SatM.skipOp (h : SatM φ ν m st a w) {tv : TV} {d : Nat} {p : Option Prop} (hd : d < φ.n) (hD : φ.D d = true) (hown : ¬ holdsTags ν own) :
    SatM φ ν m ((Eff.mk p (some (d, tv)) []).apply own st) (a.put (some d) undef) w where
  tmps := by simp [Act.put, h.tmps]
  defers := h.defers
  slot t g hg ht := by
    rw [apply_slot] at hg
    by_cases htd : t = d
    · rw [if_pos htd] at hg; cases hg; exact absurd ht hown
    · rw [if_neg htd] at hg
      simp only [Act.put]
      rw [getD_set_ne htd]
      exact h.slot t g hg ht
  skip t g hg ht := by
    rw [apply_slot] at hg
    by_cases htd : t = d
    · subst htd
      simp only [Act.put]
      rw [getD_set_same (by rw [h.tmps]; exact hd)]
    · rw [if_neg htd] at hg
      simp only [Act.put]
      rw [getD_set_ne htd]
      exact h.skip t g hg ht
  x0 := h.x0
  box k bx hk := h.box k bx hk
  inj := h.inj
  dom := h.dom
  low := h.low
  own := h.own
  vn := h.vn
  ngl := h.ngl
  n0 := h.n0
  glob := h.glob
  old := h.old
  keep := h.keep
  keepS := h.keepS
  keepT t ht := by
    have : t ≠ d := fun e => by rw [e, hD] at ht; cases ht
    simp only [Act.put]
    rw [getD_set_ne this]
    exact h.keepT t ht
def BxW (b1 b2 : Option Bx) : Prop := b1 = b2 ∨ ∃ new z, b1 = some (.cells new) ∧ b2 = some (.cells z) ∧ ∀ (m : Map) (X : Nat → Nat → Prop) (w : World) (vs : List Value), CRs m X w new vs → CRs m X w z vs
theorem SatM.weak {st st' : ASt} (h : SatM φ ν m st a w) (hs : st'.slot = st.slot) (hb : ∀ k, BxW (st.box k) (st'.box k)) : SatM φ ν m st' a w :=
  { h with
    slot := fun t g hg ht => h.slot t g (by rw [← hs]; exact hg) ht
    skip := fun t g hg ht => h.skip t g (by rw [← hs]; exact hg) ht
    box := fun k bx hk => by
      rcases hb k with e | ⟨new, z, e1, e2, e3⟩
      · exact h.box k bx (e.trans hk)
      · rw [e2] at hk
        cases hk
        obtain ⟨b, vs, T, h1, h2, h3⟩ := h.box k _ e1
        exact ⟨b, vs, T, h1, h2, e3 _ _ _ _ h3⟩
    dom := fun k hk => by
      rcases hb k with e | ⟨new, z, e1, e2, e3⟩
      · exact h.dom k (e.trans hk)
      · rw [e2] at hk; cases hk
    own := fun k bx b p hk hr hm hp => by
      rcases hb k with e | ⟨new, z, e1, e2, e3⟩
      · exact h.own k bx b p (e.trans hk) hr hm hp
      · exact h.own k _ b p e1 rfl hm hp }
theorem merge_true {X : Nat → Nat → Prop} : ∀ {xs ys zs : List Cell} {us : List Value}, mergeL true xs ys = some zs → CRs m X w xs us → CRs m X w zs us
  | [], [], zs, us, h, hc => by simp only [mergeL, Option.some.injEq] at h; subst h; exact hc
  | x :: xs, y :: ys, zs, [], h, hc => hc.elim
  | x :: xs, y :: ys, zs, u :: us, h, hc => by
    simp only [mergeL] at h
    split at h
    case h_2 => cases h
    rename_i z l hz hl
    simp only [Option.some.injEq] at h
    subst h
    exact ⟨mergeC_ok (u := u) (v := u) hz (fun _ => hc.1) (fun hh => by cases hh), merge_true hl hc.2⟩
  | [], _ :: _, zs, us, h, _ => by simp [mergeL] at h
  | _ :: _, [], zs, us, h, _ => by simp [mergeL] at h
theorem merge_false {X : Nat → Nat → Prop} : ∀ {xs ys zs : List Cell} {us : List Value}, mergeL false xs ys = some zs → CRs m X w ys us → CRs m X w zs us
  | [], [], zs, us, h, hc => by simp only [mergeL, Option.some.injEq] at h; subst h; exact hc
  | x :: xs, y :: ys, zs, [], h, hc => hc.elim
  | x :: xs, y :: ys, zs, u :: us, h, hc => by
    simp only [mergeL] at h
    split at h
    case h_2 => cases h
    rename_i z l hz hl
    simp only [Option.some.injEq] at h
    subst h
    exact ⟨mergeC_ok (u := u) (v := u) hz (fun hh => by cases hh) (fun _ => hc.1), merge_false hl hc.2⟩
  | [], _ :: _, zs, us, h, _ => by simp [mergeL] at h
  | _ :: _, [], zs, us, h, _ => by simp [mergeL] at h
theorem applyB_at {k j : Nat} {b : Option Bx} {r : List (Nat × Option Bx)} {f : Nat → Option Bx} : applyB ((k, b) :: r) f j = if j = k then b else applyB r f j := by
  show cnd (Nat.beq j k) _ _ = _
  by_cases h : j = k
  · rw [cnd_beq_true h, if_pos h]
  · rw [cnd_beq_false h, if_neg h]
theorem mergeBxs_true {st : ASt} : ∀ {l l' : List (Nat × Option Bx)}, mergeBxs true st l = some l' → ∀ k, BxW (applyB l st.box k) (applyB l' st.box k)
  | [], l', h, k => by simp only [mergeBxs, Option.some.injEq] at h; subst h; exact .inl rfl
  | (j, bx) :: r, l', h, k => by
    unfold mergeBxs at h
    split at h
    · rename_i heq; cases heq
    · rename_i j' new r' heq
      cases heq
      split at h
      case h_2 => cases h
      rename_i old l hold hl
      split at h
      case h_2 => cases h
      rename_i z hz
      simp only [Option.some.injEq] at h
      subst h
      rw [applyB_at, applyB_at]
      by_cases hk : k = j
      · rw [if_pos hk, if_pos hk]; exact .inr ⟨_, _, rfl, rfl, fun _ _ _ _ hc => merge_true hz hc⟩
      · rw [if_neg hk, if_neg hk]; exact mergeBxs_true hl k
    · cases h
theorem mergeBxs_false {st : ASt} : ∀ {l l' : List (Nat × Option Bx)}, mergeBxs false st l = some l' → ∀ k, BxW (st.box k) (applyB l' st.box k)
  | [], l', h, k => by simp only [mergeBxs, Option.some.injEq] at h; subst h; exact .inl rfl
  | (j, bx) :: r, l', h, k => by
    unfold mergeBxs at h
    split at h
    · rename_i heq; cases heq
    · rename_i j' new r' heq
      cases heq
      split at h
      case h_2 => cases h
      rename_i old l hold hl
      split at h
      case h_2 => cases h
      rename_i z hz
      simp only [Option.some.injEq] at h
      subst h
      rw [applyB_at]
      by_cases hk : k = j
      · rw [if_pos hk, hk, hold]; exact .inr ⟨_, _, rfl, rfl, fun _ _ _ _ hc => merge_false hz hc⟩
      · rw [if_neg hk]; exact mergeBxs_false hl k
    · cases h
theorem condOf_spec {st : ASt} : ∀ {own : List (Nat × Bool)} {q : Bool}, condOf st own = some q → (∀ d b, (d, b) ∈ own → ∀ g c, st.slot d = some g → g.tv = .v (.one (.bool c)) → ν d = c) → (q = true ↔ holdsTags ν own)
  | [], q, h, _ => by
    simp only [condOf, Option.some.injEq] at h
    subst h
    exact ⟨fun _ x hx => (by cases hx), fun _ => rfl⟩
  | (d, b) :: r, q, h, hy => by
    simp only [condOf] at h
    split at h
    case h_2 => cases h
    rename_i tg c q' hsl hq'
    simp only [Option.some.injEq] at h
    have ih := condOf_spec hq' (fun d b hm => hy d b (by simp [hm]))
    have hd : ν d = c := hy d b (by simp) _ c hsl rfl
    have h1 : bcond b c = true ↔ ν d = b := by rw [hd]; cases b <;> cases c <;> simp [bcond]
    have h2 : q = true ↔ bcond b c = true ∧ q' = true := by
      rw [← h]
      cases r with
      | nil =>
        simp only [condOf, Option.some.injEq] at hq'
        subst hq'
        simp
      | cons x r => simp only [Bool.and_eq_true]
    rw [h2, h1, ih]
    exact ⟨fun hh x hx => by
      rcases List.mem_cons.1 hx with rfl | hx
      · exact hh.1
      · exact hh.2 x hx, fun hh => ⟨hh (d, b) (by simp), fun x hx => hh x (by simp [hx])⟩⟩
theorem gEff_spec {st : ASt} {o : Oper} {e0 e : Eff} (h : gEff st own o e0 = some e) : e.need = e0.need ∧ e.dst = e0.dst ∧ ((e = e0 ∧ (isGuarded o = true → e0.bxs = [])) ∨ ∃ c, condOf st own = some c ∧ mergeBxs c st e0.bxs = some e.bxs) := by
  unfold gEff at h
  split at h
  · rename_i x r hg hb
    split at h
    case h_2 => cases h
    rename_i c hc
    split at h
    case h_2 => cases h
    rename_i l hl
    simp only [Option.some.injEq] at h
    subst h
    exact ⟨rfl, rfl, .inr ⟨c, hc, by rw [hb]; exact hl⟩⟩
  · rename_i hn
    simp only [Option.some.injEq] at h
    subst h
    refine ⟨rfl, rfl, .inl ⟨rfl, fun hg => ?_⟩⟩
    cases hb : e0.bxs with
    | nil => rfl
    | cons x r => exact absurd hb (fun hb => hn x r hg hb)
theorem under_spec {st : ASt} : ∀ {own : List (Nat × Bool)} {p : Prop}, under st own p → (∀ d b, (d, b) ∈ own → ∀ g c, st.slot d = some g → g.tv = .v (.one (.bool c)) → c = b) → p
  | [], p, h, _ => h
  | (d, b) :: r, p, h, hc => by
    simp only [under] at h
    have h1 := under_spec h (fun d b hm => hc d b (by simp [hm]))
    split at h1
    · rename_i tg c hsl
      exact h1 (hc d b (by simp) _ c hsl rfl)
    · exact h1
def needsHold (l : List ER) : Prop := ∀ e ∈ l, ∀ p, e.need = some p → p
theorem dstOk_spec {e : Option (Nat × TV)} {d : Option Nat} (h : dstOk e d = true) : (e = none ∧ d = none) ∨ ∃ k tv, e = some (k, tv) ∧ d = some k := by
  unfold dstOk at h
  split at h
  · rename_i k tv k'; rw [beq_eq h]; exact .inr ⟨_, _, rfl, rfl⟩
  · exact .inl ⟨rfl, rfl⟩
  · cases h
def boolOf : TV → Bool
  | .v (.one (.bool c)) => c | _ => false
theorem apply_slot_none {e : Eff} (h : e.dst = none) (t : Nat) : (e.apply own st).slot t = st.slot t := by unfold Eff.apply; rw [h]
theorem nodup_cons {x : Nat} {r : List Nat} (h : nodup (x :: r) = true) : x ∉ r ∧ nodup r = true := by
  obtain ⟨h1, h2⟩ := andd_true h
  refine ⟨fun hx => ?_, h2⟩
  have h3 := anyB_false (nott_true h1) x hx
  simp at h3
theorem evList_upto (hC : CtxOk P C) (hφ : FrOk C.G φ) (ops : List Oper) (hD : ∀ o ∈ ops, ∀ d, o.dst = some d → d < φ.n ∧ φ.D d = true) (tl : List Nat) :
    ∀ (j : Nat) (r : List Oper) (k : Nat) (W : List Nat) (st : ASt) (a : Act) (w : World) (ν : Nat → Bool) (l : List ER),
      evList C ops r W st = some l → ops.drop k = r → j ≤ r.length → nodup (r.filterMap (·.dst)) = true → (∀ d ∈ r.filterMap (·.dst), d ∉ W) → needsHold (l.take j) → (∃ m, RegM φ ν m W st a w) →
      (∀ a' w' ν' W', (∃ m, RegM φ ν' m W' (applyAll (l.take j) st) a' w') → evList C ops (r.drop j) W' (applyAll (l.take j) st) = some (l.drop j) → wpOps P ops.toArray Q tl a' w') →
      wpOps P ops.toArray Q (List.range' k j ++ tl) a w
  | 0, r, k, W, st, a, w, ν, l, h, hk, hj, hnd, hdis, hn, hr, hQ => hQ a w ν W hr h
  | j + 1, [], k, W, st, a, w, ν, l, h, hk, hj, hnd, hdis, hn, hr, hQ => absurd hj (by simp)
  | n + 1, o :: r, k, W, st, a, w, ν, l, h, hk, hj, hnd, hdis, hn, ⟨m, hr⟩, hQ => by
    simp only [evList] at h
    split at h
    case h_2 => cases h
    rename_i own hown
    split at h
    case h_2 => cases h
    rename_i e0 he
    split at h
    case h_2 => cases h
    rename_i e hge
    obtain ⟨hdst, h⟩ := cnd_some h
    obtain ⟨hgn, hgd, hgm⟩ := gEff_spec hge
    split at h
    case h_2 => cases h
    rename_i l' hl'
    simp only [Option.some.injEq] at h
    subst h
    have hko : ops[k]? = some o := by
      have : (ops.drop k)[0]? = some o := by rw [hk]; rfl
      simpa using this
    have hk' : ops.drop (k + 1) = r := by
      have : (ops.drop k).drop 1 = r := by rw [hk]; rfl
      rwa [List.drop_drop] at this
    have hoD := hD o (List.mem_of_getElem? hko)
    -- the conditions that it stands under are of slots that are written
    have hownW : ∀ x ∈ own, x.1 ∈ W := by
      intro x hx
      unfold ownOf at hown
      split at hown
      · cases hown; cases hx
      · split at hown
        case h_2 => cases hown
        rename_i d hjd
        split at hown
        case h_2 => cases hown
        rename_i tg c hsl
        obtain ⟨hmem, hown⟩ := cnd_some hown
        simp only [Option.some.injEq] at hown
        subst hown
        rcases List.mem_cons.1 hx with rfl | hx
        · exact mem_spec.1 hmem
        · exact hr.tags d _ hsl x hx
    have hndr : nodup (r.filterMap (·.dst)) = true ∧ ∀ d, o.dst = some d → d ∉ r.filterMap (·.dst) := by
      cases hod : o.dst with
      | none => rw [List.filterMap_cons_none hod] at hnd; exact ⟨hnd, fun d hd => by cases hd⟩
      | some d => rw [List.filterMap_cons_some hod] at hnd; obtain ⟨h1, h2⟩ := nodup_cons hnd; exact ⟨h2, fun d' hd => by cases hd; exact h1⟩
    have hdisr : ∀ d ∈ r.filterMap (·.dst), d ∉ consO o.dst W := by
      intro d hd
      have h1 : d ∉ W := hdis d (by
        cases hod : o.dst with
        | none => rw [List.filterMap_cons_none hod]; exact hd
        | some d' => rw [List.filterMap_cons_some hod]; exact List.mem_cons_of_mem _ hd)
      cases hod : o.dst with
      | none => exact h1
      | some d' =>
        simp only [consO, List.mem_cons, not_or]
        exact ⟨fun e => hndr.2 d' hod (e ▸ hd), h1⟩
    have hoW : ∀ d, o.dst = some d → d ∉ W := fun d hd => hdis d (by rw [List.filterMap_cons_some hd]; simp)
    -- the reading behind the operation
    let ν' : Nat → Bool := match e.dst with | some (d, tv) => fun x => if x = d then boolOf tv else ν x | none => ν
    have hν' : ∀ x, x ∈ W → ν x = ν' x := by
      intro x hx
      show ν x = (match e.dst with | some (d, tv) => fun x => if x = d then boolOf tv else ν x | none => ν) x
      rcases dstOk_spec hdst with ⟨h1, _⟩ | ⟨d, tv, h1, h2⟩
      · rw [h1]
      · rw [h1]
        have : x ≠ d := fun e => hoW d h2 (e ▸ hx)
        simp [this]
    have hsat' : SatM φ ν' m st a w := hr.sat.re fun t g hg x hx => hν' _ (hr.tags t g hg x hx)
    have hyes' : ∀ d, d ∈ W → ∀ g c, st.slot d = some g → g.tv = .v (.one (.bool c)) → ν' d = c := fun d hd g c h1 h2 => (hν' d hd).symm.trans (hr.yes d hd g c h1 h2)
    -- what holds behind it
    have hreg : ∀ m' a' w', SatM φ ν' m' (e.apply own st) a' w' → RegM φ ν' m' (consO o.dst W) (e.apply own st) a' w' := by
      intro m' a' w' hs
      rcases dstOk_spec hdst with ⟨h1, h2⟩ | ⟨d, tv, h1, h2⟩
      · refine ⟨hs, fun t g hg x hx => ?_, fun t ht g c hg hgc => ?_⟩
        · rw [apply_slot_none h1] at hg; rw [h2]; exact hr.tags t g hg x hx
        · rw [apply_slot_none h1] at hg; rw [h2] at ht; exact hyes' t ht g c hg hgc
      · have hsl : ∀ t, (e.apply own st).slot t = if t = d then some ⟨own, tv⟩ else st.slot t := by
          intro t
          obtain ⟨nn, dd, bb⟩ := e
          simp only at h1
          subst h1
          exact apply_slot
        refine ⟨hs, fun t g hg x hx => ?_, fun t ht g c hg hgc => ?_⟩
        · rw [hsl] at hg
          rw [h2]
          by_cases htd : t = d
          · rw [if_pos htd] at hg; cases hg; exact List.mem_cons_of_mem _ (hownW x hx)
          · rw [if_neg htd] at hg; exact List.mem_cons_of_mem _ (hr.tags t g hg x hx)
        · rw [hsl] at hg
          by_cases htd : t = d
          · rw [if_pos htd] at hg
            cases hg
            simp only at hgc
            show (match e.dst with | some (d, tv) => fun x => if x = d then boolOf tv else ν x | none => ν) t = c
            rw [h1, hgc]
            simp [htd, boolOf]
          · rw [if_neg htd] at hg
            rw [h2] at ht
            rcases List.mem_cons.1 ht with h3 | h3
            · exact absurd h3 htd
            · exact hyes' t h3 g c hg hgc
    have hrest : ∀ a' w', Sat φ ν' (e.apply own st) a' w' → wpOps P ops.toArray Q (List.range' (k + 1) n ++ tl) a' w' := fun a' w' ⟨m', hs⟩ =>
      evList_upto hC hφ ops hD tl n r (k + 1) (consO o.dst W) (e.apply own st) a' w' ν' l' hl' hk' (by simpa using hj) hndr.1 hdisr (fun x hx => hn x (List.mem_cons_of_mem _ hx)) ⟨m', hreg m' a' w' hs⟩
        (fun a' w' ν'' W' hh hh2 => hQ a' w' ν'' W' hh hh2)
    have hneed : holdsTags ν' own → ∀ p, e.need = some p → p := by
      intro ht p hp
      have h1 : under st own p := hn ⟨own, underO st own e.need, e⟩ (by simp) (under st own p) (by simp [underO, hp])
      refine under_spec h1 fun d b hm g c hg hgc => ?_
      have h2 := hyes' d (hownW _ hm) g c hg hgc
      have h3 := ht _ hm
      simp only at h3
      rw [← h2, h3]
    -- the step
    rw [List.range'_succ, List.cons_append, wpOps_cons]
    unfold wpOp
    have hko' : ops.toArray[k]? = some o := by simpa using hko
    simp only [hko']
    by_cases ht : holdsTags ν' own
    · have hw : Region.wanted o (yielded ops.toArray a.tmps) = true := by
        unfold Region.wanted
        unfold ownOf at hown
        split at hown
        · rename_i hg; simp [hg]
        · rename_i j b hg
          split at hown
          case h_2 => cases hown
          rename_i d hjd
          split at hown
          case h_2 => cases hown
          rename_i tg c hsl
          obtain ⟨hmem, hown⟩ := cnd_some hown
          simp only [Option.some.injEq] at hown
          subst hown
          have hv : a.tmps.getD d undef = .bool c := hsat'.slot d _ hsl (fun x hx => ht x (List.mem_cons_of_mem _ hx))
          have hb : ν' d = b := ht (d, b) (by simp)
          have hcb : ν' d = c := hyes' d (mem_spec.1 hmem) _ c hsl rfl
          have hy : yielded ops.toArray a.tmps j = some c := by
            unfold yielded
            have : (ops.toArray[j]?).bind (·.dst) = some d := by simpa using hjd
            rw [this]
            simp only [Option.bind_some]
            rw [Array.getD_eq_getD_getElem?] at hv
            cases hq : a.tmps[d]? with
            | none => rw [hq] at hv; cases hv
            | some u => rw [hq] at hv; simp only [Option.getD_some] at hv; rw [hv]
          simp only [hg, hy]
          rw [← hcb, hb]
          simp
      rw [if_pos hw]
      have hrest0 : ∀ a' w', Sat φ ν' (e0.apply own st) a' w' → wpOps P ops.toArray Q (List.range' (k + 1) n ++ tl) a' w' := fun a' w' ⟨m', hs⟩ => by
        refine hrest a' w' ⟨m', ?_⟩
        rcases hgm with ⟨e1, _⟩ | ⟨c, hc1, hc2⟩
        · rw [e1]; exact hs
        · have hct : c = true := (condOf_spec hc1 (fun d b hm g c h1 h2 => hyes' d (hownW _ hm) g c h1 h2)).2 ht
          subst hct
          refine hs.weak ?_ (mergeBxs_true hc2)
          unfold Eff.apply
          rw [hgd]
      refine .inl (op_ok (C := C) (φ := φ) (ν := ν') (own := own) (W := W) (st := st) (e := e0) (m := m) ⟨hC, hφ, he, (by rw [← hgn]; exact hneed ht), ht, hyes', hsat', hoD, hrest0⟩)
    · -- it stands under a condition that doesn't hold
      have hg : ∃ j b, o.guard = some (j, b) := by
        cases hgd : o.guard with
        | none => unfold ownOf at hown; rw [hgd] at hown; simp only [Option.some.injEq] at hown; subst hown; exact absurd (fun x hx => by cases hx) ht
        | some x => exact ⟨x.1, x.2, rfl⟩
      obtain ⟨j, b, hg⟩ := hg
      have hbx : ∀ k, BxW (st.box k) (applyB e.bxs st.box k) := by
        rcases hgm with ⟨e1, e2⟩ | ⟨c, hc1, hc2⟩
        · have : e.bxs = [] := by rw [e1]; exact e2 (by unfold isGuarded; rw [hg])
          rw [this]; exact fun _ => .inl rfl
        · have hcf : c = false := by
            cases hcc : c with
            | false => rfl
            | true => exact absurd ((condOf_spec hc1 (fun d b hm g c h1 h2 => hyes' d (hownW _ hm) g c h1 h2)).1 hcc) ht
          subst hcf
          exact mergeBxs_false hc2
      have hw : Region.wanted o (yielded ops.toArray a.tmps) = false := by
        unfold Region.wanted
        unfold ownOf at hown
        rw [hg] at hown
        simp only at hown
        split at hown
        case h_2 => cases hown
        rename_i d hjd
        split at hown
        case h_2 => cases hown
        rename_i tg c hsl
        obtain ⟨hmem, hown⟩ := cnd_some hown
        simp only [Option.some.injEq] at hown
        subst hown
        have hjd' : (ops.toArray[j]?).bind (·.dst) = some d := by simpa using hjd
        simp only [hg]
        by_cases htg : holdsTags ν' tg
        · have hv : a.tmps.getD d undef = .bool c := hsat'.slot d _ hsl htg
          have hcb : ν' d = c := hyes' d (mem_spec.1 hmem) _ c hsl rfl
          have hne : ν' d ≠ b := fun hb => ht fun x hx => by
            rcases List.mem_cons.1 hx with rfl | hx
            · exact hb
            · exact htg x hx
          have hy : yielded ops.toArray a.tmps j = some c := by
            unfold yielded
            rw [hjd']
            simp only [Option.bind_some]
            rw [Array.getD_eq_getD_getElem?] at hv
            cases hq : a.tmps[d]? with
            | none => rw [hq] at hv; cases hv
            | some u => rw [hq] at hv; simp only [Option.getD_some] at hv; rw [hv]
          rw [hy, ← hcb]
          simpa using hne
        · have hv : a.tmps.getD d undef = undef := hsat'.skip d _ hsl htg
          have hy : yielded ops.toArray a.tmps j = none := by
            unfold yielded
            rw [hjd']
            simp only [Option.bind_some]
            rw [Array.getD_eq_getD_getElem?] at hv
            cases hq : a.tmps[d]? with
            | none => rfl
            | some u => rw [hq] at hv; simp only [Option.getD_some] at hv; rw [hv]; rfl
          rw [hy]; rfl
      rw [if_neg (by rw [hw]; simp)]
      rcases dstOk_spec hdst with ⟨h1, h2⟩ | ⟨d, tv, h1, h2⟩
      · rw [h2]
        refine hrest _ _ ⟨m, ?_⟩
        refine hsat'.weak ?_ hbx
        unfold Eff.apply
        rw [h1]
      · rw [h2]
        refine hrest _ _ ⟨m, ?_⟩
        refine (hsat'.skipOp (own := own) (tv := tv) (p := e.need) (hoD d h2).1 (hoD d h2).2 ht).weak ?_ hbx
        unfold Eff.apply
        rw [h1]
theorem evList_len {ops : List Oper} : ∀ {r : List Oper} {W : List Nat} {st : ASt} {l : List ER}, evList C ops r W st = some l → l.length = r.length
  | [], W, st, l, h => by simp only [evList, Option.some.injEq] at h; subst h; rfl
  | o :: r, W, st, l, h => by
    simp only [evList] at h
    split at h
    case h_2 => cases h
    split at h
    case h_2 => cases h
    split at h
    case h_2 => cases h
    obtain ⟨_, h⟩ := cnd_some h
    split at h
    case h_2 => cases h
    rename_i l' hl'
    simp only [Option.some.injEq] at h
    subst h
    simp [evList_len hl']
theorem evList_ok (hC : CtxOk P C) (hφ : FrOk C.G φ) (ops : List Oper) (hD : ∀ o ∈ ops, ∀ d, o.dst = some d → d < φ.n ∧ φ.D d = true)
    (r : List Oper) (k : Nat) (W : List Nat) (st : ASt) (a : Act) (w : World) (ν : Nat → Bool) (l : List ER)
    (h : evList C ops r W st = some l) (hk : ops.drop k = r) (hnd : nodup (r.filterMap (·.dst)) = true) (hdis : ∀ d ∈ r.filterMap (·.dst), d ∉ W) (hn : needsHold l) (hr : ∃ m, RegM φ ν m W st a w)
    (hQ : ∀ a' w' ν' W', (∃ m, RegM φ ν' m W' (applyAll l st) a' w') → Q .normal a' w') :
      wpOps P ops.toArray Q (List.range' k r.length) a w := by
  have ht : l.take r.length = l := by rw [← evList_len h]; exact List.take_length
  have := evList_upto (Q := Q) hC hφ ops hD [] r.length r k W st a w ν l h hk (Nat.le_refl _) hnd hdis (by rw [ht]; exact hn) hr (fun a' w' ν' W' h' _ => hQ a' w' ν' W' (by rw [ht] at h'; exact h'))
  rwa [List.append_nil] at this
end
end Go.Proofs.Ytbnihoioblmgkaa.Sy
end

section
/- The symbolic evaluator is sound: regions that draw their order (own work). First: an operation comes to the same in every state that says more. -/
namespace Go.Proofs.Ytbnihoioblmgkaa.Sy
open Go Go.RowKit
set_option linter.unusedVariables false
set_option linter.unusedSimpArgs false
structure Sub (r s : ASt) (W V : List Nat) : Prop where
  slot : ∀ t g, r.slot t = some g → s.slot t = some g
  box : ∀ b, r.box b = some .tok ∨ r.box b = s.box b
  mem : ∀ t g, r.slot t = some g → mem t W = mem t V
section
variable {r s : ASt} {W V : List Nat} {own : List (Nat × Bool)} {C : Ctx} {o : Oper}
theorem opnd_mono (h : Sub r s W V) {ty : Option Ty} {x : Operand} {v : TV} (hx : opnd r own ty x = some v) : opnd s own ty x = some v := by
  cases x with
  | tmp t =>
    simp only [opnd] at hx ⊢
    split at hx
    · rename_i g hg; rw [h.slot t g hg]; exact hx
    · cases hx
  | _ => exact hx
theorem opnd1_mono (h : Sub r s W V) {ty : Option Ty} {x : Operand} {v : SV} (hx : opnd1 r own ty x = some v) : opnd1 s own ty x = some v := by
  unfold opnd1 at hx ⊢
  split at hx
  · rename_i s' hs'; rw [opnd_mono h hs']; exact hx
  · cases hx
theorem opndc_mono (h : Sub r s W V) {ty : Option Ty} {x : Operand} {v : Cell} (hx : opndc r own ty x = some v) : opndc s own ty x = some v := by
  unfold opndc at hx ⊢
  split at hx
  · rename_i s' hs'; rw [opnd_mono h hs']; exact hx
  · cases hx
theorem allSV_mono (h : Sub r s W V) : ∀ {tys : List (Option Ty)} {xs : List Operand} {v : List SV}, allSV r own tys xs = some v → allSV s own tys xs = some v
  | _, [], _, hx => hx
  | tys, x :: xs, v, hx => by
    simp only [allSV] at hx ⊢
    split at hx
    · rename_i h1 h2; rw [opnd1_mono h h1, allSV_mono h h2]; exact hx
    · cases hx
theorem fillP_mono (h : Sub r s W V) {place : Nat → Option (Nat × Nat)} : ∀ {ps : List (Nat × Operand)} {cs v : List Cell}, fillP C r own place ps cs = some v → fillP C s own place ps cs = some v
  | [], _, _, hx => hx
  | (i, x) :: ps, cs, v, hx => by
    simp only [fillP] at hx ⊢
    split at hx
    case h_2 => cases hx
    rename_i tid off hp
    split at hx
    case h_2 => cases hx
    rename_i df sv hd hs
    obtain ⟨hc, hx⟩ := cnd_some hx
    simp only [hd, opnd1_mono h hs]
    rw [hc]
    exact fillP_mono h hx
theorem box_mono (h : Sub r s W V) {k : Nat} {x : Option Bx} (hx : r.box k = x) (hn : x ≠ some .tok) : s.box k = x := by
  rcases h.box k with h1 | h1
  · exact absurd (hx.symm.trans h1) hn
  · rw [← h1]; exact hx
theorem rdBox_mono (h : Sub r s W V) {k : Nat} {cs : List Cell} (hx : rdBox r k = some cs) : rdBox s k = some cs := by
  unfold rdBox at hx ⊢
  split at hx
  · rename_i h1; rw [box_mono h h1 (by simp)]; exact hx
  · rename_i h1; rw [box_mono h h1 (by simp)]; exact hx
  · cases hx
theorem unvC_mono (h : Sub r s W V) {fr : Bool} {c c' : Cell} (hx : unvC fr r c = some c') : unvC fr s c = some c' := by
  cases c with
  | vref e k =>
    simp only [unvC] at hx ⊢
    split at hx
    · rename_i h1; rw [box_mono h h1 (by simp)]; exact hx
    · rename_i h1; rw [box_mono h h1 (by simp)]; exact hx
    · cases hx
  | _ => exact hx
theorem unvL_mono (h : Sub r s W V) {fr : Bool} : ∀ {cs cs' : List Cell}, unvL fr r cs = some cs' → unvL fr s cs = some cs'
  | [], cs', hx => hx
  | c :: cs, cs', hx => by
    simp only [unvL] at hx ⊢
    split at hx
    case h_2 => cases hx
    rename_i h1 h2
    rw [unvC_mono h h1, unvL_mono h h2]; exact hx
theorem unvS_mono (h : Sub r s W V) {fr : Bool} {x y : SV} (hx : unvS fr r x = some y) : unvS fr s x = some y := by
  cases x with
  | one c =>
    simp only [unvS] at hx ⊢
    split at hx
    case h_2 => cases hx
    rename_i h1; rw [unvC_mono h h1]; exact hx
  | agg cs =>
    simp only [unvS] at hx ⊢
    split at hx
    case h_2 => cases hx
    rename_i h1; rw [unvL_mono h h1]; exact hx
theorem unvSs_mono (h : Sub r s W V) {fr : Bool} : ∀ {xs ys : List SV}, unvSs fr r xs = some ys → unvSs fr s xs = some ys
  | [], ys, hx => hx
  | x :: xs, ys, hx => by
    simp only [unvSs] at hx ⊢
    split at hx
    case h_2 => cases hx
    rename_i h1 h2
    rw [unvS_mono h h1, unvSs_mono h h2]; exact hx
theorem apSrc_mono (h : Sub r s W V) {el : Nat} {e : Ty} {c : Cell} {x : List e.den × Option Nat × Bool} (hx : apSrc r el e c = some x) : apSrc s el e c = some x := by
  cases c with
  | vref e1 k =>
    simp only [apSrc] at hx ⊢
    split at hx
    · rename_i h1; rw [box_mono h h1 (by simp)]; exact hx
    · cases hx
  | lst t tl l => cases tl <;> exact hx
  | _ => exact hx
theorem apNew_mono (h : Sub r s W V) {e : Ty} {c : Cell} {x : List e.den} (hx : apNew r e c = some x) : apNew s e c = some x := by
  cases c with
  | vref e1 k =>
    simp only [apNew] at hx ⊢
    split at hx
    · rename_i h1; rw [unvC_mono h h1]; exact hx
    · cases hx
  | _ => exact hx
theorem optI_mono (h : Sub r s W V) {x : Option Operand} {n : Int} (hx : optI r own x = some n) : optI s own x = some n := by
  cases x with
  | none => exact hx
  | some x =>
    simp only [optI] at hx ⊢
    split at hx
    · rename_i h1; rw [opndc_mono h h1]; exact hx
    · cases hx
theorem optH_mono (h : Sub r s W V) {x : Option Operand} {n0 n : Int} (hx : optH r own x n0 = some n) : optH s own x n0 = some n := by
  cases x with
  | none => exact hx
  | some x =>
    simp only [optH] at hx ⊢
    split at hx
    · rename_i h1; rw [opndc_mono h h1]; exact hx
    · cases hx
theorem rdW_mono (h : Sub r s W V) : ∀ {l : List (Nat × Nat)} {cs : List Cell}, rdW r l = some cs → rdW s l = some cs
  | [], _, hx => hx
  | (k, n) :: l, cs, hx => by
    simp only [rdW] at hx ⊢
    split at hx
    case h_2 => cases hx
    rename_i h1 h2
    simp only [box_mono h h1 (by simp), rdW_mono h h2]; exact hx
theorem rdR_mono (h : Sub r s W V) : ∀ {l : List (Nat × Nat)} {cs : List Cell}, rdR r l = some cs → rdR s l = some cs
  | [], _, hx => hx
  | (k, n) :: l, cs, hx => by
    simp only [rdR] at hx ⊢
    split at hx
    case h_2 => cases hx
    rename_i h1 h2
    simp only [rdBox_mono h h1, rdR_mono h h2]; exact hx
theorem allFz_mono (h : Sub r s W V) {ks : List Nat} {b : Bool} (hc : orr (allFz r ks) b = true) : orr (allFz s ks) b = true := by
  have key : ∀ ks : List Nat, allFz r ks = true → allFz s ks = true := by
    intro ks
    induction ks with
    | nil => intro _; rfl
    | cons k t ih =>
      intro h1
      simp only [allFz] at h1 ⊢
      split at h1
      · rename_i h2
        simp only [box_mono h h2 (by simp)]
        exact ih h1
      · cases h1
  rcases orr_true hc with h1 | h1
  · rw [key ks h1]; rfl
  · rw [h1]; cases allFz s ks <;> rfl
theorem allFz_mono1 (h : Sub r s W V) {ks : List Nat} (hc : allFz r ks = true) : allFz s ks = true := by
  have := allFz_mono h (b := false) (ks := ks) (by rw [hc]; rfl)
  rcases orr_true this with x | x
  · exact x
  · cases x
theorem evPtr_mono (h : Sub r s W V) {cp : Cp} {d : Nat} {xs : List SV} {e : Eff} (he : evPtr r cp d xs = some e) : evPtr s cp d xs = some e := by
  unfold evPtr at he ⊢
  split at he
  case h_2 => cases he
  rename_i ks vs h1 h2
  simp only [h1, unvSs_mono h h2]
  split at he
  case h_2 => cases he
  rename_i kc0 vc h3 h4
  have h3 : cnd cp.ro (rdR s (zipN ks cp.sz)) (rdW s (zipN ks cp.sz)) = some kc0 := by
    cases hro : cp.ro with
    | true => rw [hro] at h3; exact rdR_mono h h3
    | false => rw [hro] at h3; exact rdW_mono h h3
  simp only [h3, h4]
  split at he
  case h_2 => cases he
  rename_i h5
  simp only [unvL_mono h h5]
  exact he
theorem evPan_mono (h : Sub r s W V) {cp : Cp} {xs : List SV} {e : Option Prop × Bool × List (Nat × Option Bx)} (he : evPan r cp xs = some e) : evPan s cp xs = some e := by
  unfold evPan at he ⊢
  split at he
  case h_2 => cases he
  rename_i ks vs h1 h2
  simp only [h1, unvSs_mono h h2]
  split at he
  case h_2 => cases he
  rename_i kc0 vc h3 h4
  have h3 : cnd cp.ro (rdR s (zipN ks cp.sz)) (rdW s (zipN ks cp.sz)) = some kc0 := by
    cases hro : cp.ro with
    | true => rw [hro] at h3; exact rdR_mono h h3
    | false => rw [hro] at h3; exact rdW_mono h h3
  simp only [h3, h4]
  split at he
  case h_2 => cases he
  rename_i h5
  simp only [unvL_mono h h5]
  exact he
theorem evZ_mono (h : Sub r s W V) {z : Zc} {d : Nat} {xs : List SV} {e : Eff} (he : evZ r z d xs = some e) : evZ s z d xs = some e := by
  cases z with
  | mk c =>
    simp only [evZ, evMk] at he ⊢
    split at he
    case h_2 => cases he
    rename_i xs' h1 h2
    simp only [unvSs_mono h h1, box_mono h h2 (by simp)]
    split at he
    case h_2 => cases he
    rename_i cs h3
    try simp only [h3]
    split at he
    case h_2 => cases he
    rename_i x h4
    try simp only [h4]
    obtain ⟨hz, he⟩ := cnd_some he
    rw [allFz_mono1 h hz]
    exact he
  | pw c =>
    simp only [evZ, evPw] at he ⊢
    split at he
    case h_2 => cases he
    rename_i k xs1
    split at he
    case h_2 => cases he
    rename_i c' xs' h1 h2 h3
    simp only [box_mono h h1 (by simp), unvSs_mono h h2, box_mono h h3 (by simp)]
    split at he
    case h_2 => cases he
    rename_i l j ow cs h4 h5
    simp only [apSrc_mono h h4, h5]
    split at he
    case h_2 => cases he
    rename_i x h6
    try simp only [h6]
    obtain ⟨hz, he⟩ := cnd_some he
    obtain ⟨hz, hne⟩ := andd_true hz
    rw [allFz_mono1 h hz, hne]
    exact he
theorem evPtrN_mono (h : Sub r s W V) {cp : Cp} {d : Nat} {xs : List SV} {e : Eff} (he : evPtrN r cp d xs = some e) : evPtrN s cp d xs = some e := by
  unfold evPtrN at he ⊢
  split at he
  case h_2 => cases he
  rename_i e0 h1
  simp only [evPtr_mono h h1]
  cases hp : cp.pn with
  | none => rw [hp] at he; exact he
  | some g =>
    rw [hp] at he
    simp only at he ⊢
    split at he
    case h_2 => cases he
    rename_i h2
    rw [evPan_mono h h2]
    exact he
theorem evOp_mono (h : Sub r s W V) {e : Eff} (he : evOp C own W r o = some e) : evOp C own V s o = some e := by
  cases hop : o.op with
  | move x =>
    simp only [evOp, hop] at he ⊢
    split at he
    · rename_i h1 h2; simp only [opnd_mono h h1, h2]; exact he
    · cases he
  | assign x =>
    simp only [evOp, hop] at he ⊢
    split at he
    · rename_i h1 h2; simp only [opnd_mono h h1, h2]; exact he
    · cases he
  | pick c x y =>
    simp only [evOp, hop] at he ⊢
    split at he
    case h_2 => cases he
    rename_i cv ct h1 h2
    have hm : mem ct W = mem ct V := by
      cases c with
      | tmp t =>
        simp only [Option.some.injEq] at h2
        subst h2
        simp only [opndc, opnd] at h1
        split at h1
        case h_2 => cases h1
        rename_i s' hs'
        split at hs'
        · rename_i g hg; exact h.mem t g hg
        · cases hs'
      | _ => cases h2
    simp only [opndc_mono h h1, h2]
    rw [← hm]
    split at he
    case h_2 => cases he
    rename_i h3 h4
    simp only [opndc_mono h h3, opndc_mono h h4]
    exact he
  | alloc t =>
    simp only [evOp, hop] at he ⊢
    split at he
    case h_2 => cases he
    rename_i d k h1 h2
    split at he
    case h_2 => cases he
    rename_i h3
    simp only [h1, h2, box_mono h h3 (by simp)]
    exact he
  | box t x =>
    simp only [evOp, hop] at he ⊢
    split at he
    case h_2 => cases he
    rename_i d k h1 h2
    split at he
    case h_2 => cases he
    rename_i h3
    simp only [opnd1_mono h h1, h2, box_mono h h3 (by simp)]
    exact he
  | build t ps =>
    simp only [evOp, hop] at he ⊢
    split at he
    case h_2 => cases he
    rename_i d hd
    try simp only [hd]
    split at he
    · rename_i fs hk
      try simp only [hk]
      split at he
      · rename_i h1; simp only [fillP_mono h h1]; exact he
      · cases he
    · rename_i e' hk
      try simp only [hk]
      split at he
      case h_2 => cases he
      rename_i de hde
      try simp only [hde]
      split at he
      · rename_i h1; simp only [fillP_mono h h1]; exact he
      · cases he
    · cases he
  | buildSlice t n ps =>
    simp only [evOp, hop] at he ⊢
    split at he
    case h_2 => cases he
    rename_i d hd
    try simp only [hd]
    split at he
    case h_2 => cases he
    rename_i el e' hk hty
    try simp only [hk, hty]
    split at he
    case h_2 => cases he
    rename_i h1
    simp only [fillP_mono h h1]
    exact he
  | load t x =>
    simp only [evOp, hop] at he ⊢
    split at he
    · rename_i k off d h1 h2
      simp only [opndc_mono h h1, h2]
      split at he
      case h_2 => cases he
      rename_i h3
      simp only [rdBox_mono h h3]
      exact he
    · rename_i h1 h2
      simp only [opndc_mono h h1, h2]
      exact he
    · rename_i h1 h2
      simp only [opndc_mono h h1, h2]
      split at he
      case h_2 => cases he
      rename_i h3
      simp only [rdBox_mono h h3]
      exact he
    · rename_i h1 h2
      simp only [opndc_mono h h1, h2]
      split at he
      case h_2 => cases he
      rename_i h3
      simp only [box_mono h h3 (by simp)]
      exact he
    · cases he
  | store t x y =>
    simp only [evOp, hop] at he ⊢
    split at he
    case h_4 => cases he
    all_goals
      rename_i h1 h2 h3
      split at h1
      · cases h1
      rename_i hd
      simp only [hd, opndc_mono h h1, h2, opnd1_mono h h3]
      split at he
      case h_2 => cases he
      rename_i h4
      simp only [box_mono h h4 (by simp)]
      exact he
  | nilCheck x =>
    simp only [evOp, hop] at he ⊢
    split at he
    · rename_i h1; simp only [opndc_mono h h1]; exact he
    · rename_i h1; simp only [opndc_mono h h1]; exact he
    · rename_i h1; simp only [opndc_mono h h1]; exact he
    · rename_i h1; simp only [opndc_mono h h1]; exact he
    · rename_i h1; simp only [opndc_mono h h1]; exact he
    · rename_i h1; simp only [opndc_mono h h1]; exact he
    · cases he
  | binOp op t x y yt =>
    simp only [evOp, hop] at he ⊢
    split at he
    · rename_i h1 h2; simp only [opnd1_mono h h1, opnd1_mono h h2]; exact he
    · cases he
  | unOp op t x =>
    simp only [evOp, hop] at he ⊢
    split at he
    · rename_i h1; simp only [opndc_mono h h1]; exact he
    · rename_i h1; simp only [opndc_mono h h1]; exact he
    · cases he
  | convert a b x =>
    simp only [evOp, hop] at he ⊢
    split at he
    · rename_i h1 h2 h3; simp only [h1, h2, opndc_mono h h3]; exact he
    · rename_i h1 h2 h3; simp only [h1, h2, opndc_mono h h3]; exact he
    · rename_i h1 h2 h3
      simp only [h1, h2, opndc_mono h h3]
      split at he
      · rename_i h4 h5; simp only [h4, apNew_mono h h5]; exact he
      · cases he
    · rename_i h1 h2 h3
      simp only [h1, h2, opndc_mono h h3]
      split at he
      case h_2 => cases he
      rename_i h4 h5
      try simp only [h4, h5]
      split at he
      case h_2 => cases he
      rename_i h6 h7 h8 h9
      simp only [h6, box_mono h h7 (by simp), h8, h9]
      exact he
    · cases he
  | fieldAddr t x f =>
    simp only [evOp, hop] at he ⊢
    split at he
    · rename_i h1 h2; simp only [opndc_mono h h1, h2]; exact he
    · rename_i h1 h2; simp only [opndc_mono h h1, h2]; exact he
    · rename_i h1 h2; simp only [opndc_mono h h1, h2]; exact he
    · cases he
  | field t x f =>
    simp only [evOp, hop] at he ⊢
    split at he
    · rename_i h1 h2; simp only [opnd1_mono h h1, h2]; exact he
    · cases he
  | indexAddr t x i =>
    by_cases hxg : ∃ g, x = .global g
    · obtain ⟨g, rfl⟩ := hxg
      simp only [evOp, hop] at he ⊢
      split at he
      · rename_i h1 h2 h3; simp only [h1, h2, opndc_mono h h3]; exact he
      · cases he
    have hxg : ∀ g, x = .global g → False := fun g hg => hxg ⟨g, hg⟩
    simp only [evOp, hop] at he ⊢
    split at he
    · rename_i h1 h2 h3; simp only [h1, opndc_mono h h2, opndc_mono h h3]; exact he
    · rename_i h1 h2 h3; simp only [h1, opndc_mono h h2, opndc_mono h h3]; exact he
    · rename_i h1 h2 h3
      simp only [h1, opndc_mono h h2, opndc_mono h h3]
      split at he
      · rename_i h4 h5 h6; simp only [h4, h5, box_mono h h6 (by simp)]; exact he
      · rename_i h4 h5 h6; simp only [h4, h5, box_mono h h6 (by simp)]; exact he
      · cases he
    · cases he
  | makeSlice t x y =>
    simp only [evOp, hop] at he ⊢
    split at he
    case h_2 => cases he
    rename_i h1 h2 h3 h4
    simp only [h1, h2, opndc_mono h h3, opndc_mono h h4]
    split at he
    case h_2 => cases he
    rename_i h5 h6 h7
    simp only [h5, h6, box_mono h h7 (by simp)]
    exact he
  | slice t x lo hi mx =>
    simp only [evOp, hop] at he ⊢
    split at he
    case h_2 => cases he
    rename_i h1 h2 h3
    simp only [h1, opndc_mono h h2, optI_mono h h3]
    split at he
    · rename_i h4 h4'
      try simp only [h4, h4']
      split at he
      case h_2 => cases he
      rename_i h5; simp only [optH_mono h h5]; exact he
    · rename_i h4 h4'
      try simp only [h4, h4']
      split at he
      · rename_i h5
        simp only [box_mono h h5 (by simp)]
        split at he
        case h_2 => cases he
        rename_i h6; simp only [optH_mono h h6]; exact he
      · rename_i h5
        simp only [box_mono h h5 (by simp)]
        split at he
        case h_2 => cases he
        rename_i h7 h6
        simp only [optH_mono h h6, h7]
        split at he
        case h_2 => cases he
        rename_i h8; simp only [box_mono h h8 (by simp)]; exact he
      · cases he
    · rename_i h4 h4'
      try simp only [h4, h4']
      split at he
      case h_2 => cases he
      rename_i h5 h7; simp only [h5, optH_mono h h7]; exact he
    · cases he
  | index t x i =>
    simp only [evOp, hop] at he ⊢
    split at he
    · rename_i h1 h2 h3; simp only [h1, opnd1_mono h h2, opndc_mono h h3]; exact he
    · rename_i h1 h2 h3; simp only [h1, opnd1_mono h h2, opndc_mono h h3]; exact he
    · cases he
  | makeFunc f first caps =>
    cases f with
    | func g =>
      simp only [evOp, hop] at he ⊢
      split at he
      case h_2 => cases he
      rename_i h1 h2
      simp only [h1, allSV_mono h h2]
      exact he
    | _ => simp only [evOp, hop] at he; cases he
  | extract x i =>
    simp only [evOp, hop] at he ⊢
    split at he
    · rename_i h1; simp only [opnd_mono h h1]; exact he
    · cases he
  | call c =>
    simp only [evOp, hop] at he ⊢
    split at he
    · rename_i f hc
      try simp only [hc]
      split at he
      · rename_i xt hxt
        try simp only [hxt]
        split at he
        case h_2 => cases he
        rename_i x hx
        try simp only [hx]
        split at he
        case h_2 => cases he
        rename_i h1
        simp only [opndc_mono h h1]
        exact he
      rename_i hxt
      try simp only [hxt]
      split at he
      · rename_i z hz
        try simp only [hz]
        split at he
        case h_2 => cases he
        rename_i h1 h2
        simp only [h1, allSV_mono h h2]
        exact evZ_mono h he
      rename_i hz
      try simp only [hz]
      split at he
      · rename_i cp hpg
        try simp only [hpg]
        split at he
        case h_2 => cases he
        rename_i h1 h2
        simp only [h1, allSV_mono h h2]
        exact evPtrN_mono h he
      rename_i hpg
      try simp only [hpg]
      split at he
      case h_2 => cases he
      rename_i ct d h1 h2
      try simp only [h1, h2]
      split at he
      case h_2 => cases he
      rename_i h3
      simp only [allSV_mono h h3]
      split at he
      case h_2 => cases he
      rename_i h4
      simp only [unvSs_mono h h4]
      split at he
      case h_2 => cases he
      rename_i h5
      try simp only [h5]
      split at he
      case h_2 => cases he
      rename_i h6
      try simp only [h6]
      split at he
      · rename_i h7; try simp only [h7]
        split at he
        case h_2 => cases he
        rename_i h8
        obtain ⟨hc, he'⟩ := cnd_some he
        simp only [h8, allFz_mono h hc]
        exact he'
      · rename_i T h7
        try simp only [h7]
        split at he
        case h_2 => cases he
        rename_i h8 h9 h10
        simp only [h8, h9, box_mono h h10 (by simp)]
        obtain ⟨hc, he⟩ := cnd_some he
        rw [hc]
        cases hB : Nat.ble big T with
        | false => rw [hB] at he; exact he
        | true =>
          rw [hB] at he
          obtain ⟨hz, he⟩ := cnd_some he
          rw [allFz_mono1 h hz]
          exact he
    · rename_i hc
      try simp only [hc]
      split at he
      · rename_i h1 h2 h3
        simp only [opndc_mono h h1, h2, allSV_mono h h3]
        split at he
        case h_2 => cases he
        rename_i h4 h5
        simp only [h4, unvSs_mono h h5]
        exact he
      · rename_i h1 h2 h3
        simp only [opndc_mono h h1, h2, allSV_mono h h3]
        split at he
        case h_2 => cases he
        rename_i h4
        try simp only [h4]
        exact evPtrN_mono h he
      · cases he
    · rename_i hc
      try simp only [hc]
      split at he
      case h_2 => cases he
      rename_i h1 h2 h3
      try simp only [h1, h2, h3]
      split at he
      case h_2 => cases he
      rename_i h4 h5 h6 h7 h8
      simp only [h4, h5, box_mono h h6 (by simp), opndc_mono h h7, opndc_mono h h8]
      split at he
      case h_3 => cases he
      case h_2 =>
        rename_i h9 h10 h11
        try simp only [h9, h10, h11]
        split at he
        case h_2 => cases he
        rename_i h12 h13 h14
        simp only [h12, apSrc_mono h h13, h14]
        exact he
      rename_i h9 h10 h11
      try simp only [h9, h10, h11]
      split at he
      case h_2 => cases he
      rename_i h12 h13 h14
      simp only [h12, apSrc_mono h h13, apNew_mono h h14]
      exact he
    · rename_i hc
      try simp only [hc]
      split at he
      case h_2 => cases he
      rename_i h1 h2 h3
      try simp only [h1, h2, h3]
      split at he
      case h_2 => cases he
      rename_i h4 h5 h7 h8
      simp only [h4, h5, opndc_mono h h7, opndc_mono h h8]
      split at he
      case h_2 => cases he
      rename_i h9 h10 h11
      try simp only [h9, h10, box_mono h h11 (by simp)]
      split at he
      case h_2 => cases he
      rename_i h12 h14
      simp only [h12, apNew_mono h h14]
      exact he
    · rename_i hc
      try simp only [hc]
      split at he
      case h_2 => cases he
      rename_i x ty tl hx ht
      try simp only [hx, ht]
      split at he
      case h_2 => cases he
      rename_i d hd
      try simp only [hd]
      split at he
      · rename_i hk h1; rw [opndc_mono h h1]; simp only [hk]; exact he
      · rename_i hk h1
        rw [opndc_mono h h1]; simp only [hk]
        split at he
        · rename_i h2; simp only [box_mono h h2 (by simp)]; exact he
        · rename_i h2; simp only [box_mono h h2 (by simp)]; exact he
        · cases he
      · rename_i hk ha hty h1; rw [opndc_mono h h1]; simp only [hk, ha, hty]; exact he
      · cases he
    · rename_i hc
      try simp only [hc]
      split at he
      case h_2 => cases he
      rename_i x y hx
      try simp only [hx]
      split at he
      case h_2 => cases he
      rename_i h1 h2
      simp only [opndc_mono h h1, opndc_mono h h2]; exact he
    · rename_i hc
      try simp only [hc]
      split at he
      · rename_i x y hx
        try simp only [hx]
        split at he
        case h_2 => cases he
        rename_i h1 h2
        simp only [opndc_mono h h1, opndc_mono h h2]; exact he
      · rename_i x y z hx
        try simp only [hx]
        split at he
        case h_2 => cases he
        rename_i h1 h2 h3
        simp only [opndc_mono h h1, opndc_mono h h2, opndc_mono h h3]; exact he
      · cases he
    · cases he
  | _ => simp only [evOp, hop] at he; cases he
theorem ownOf_mono (h : Sub r s W V) {ops : List Oper} {own : List (Nat × Bool)} (he : ownOf ops W r o = some own) : ownOf ops V s o = some own := by
  unfold ownOf at he ⊢
  split at he
  · exact he
  · split at he
    case h_2 => cases he
    rename_i d hd
    split at he
    case h_2 => cases he
    rename_i tg c hs
    simp only [hd, h.slot _ _ hs, ← h.mem _ _ hs]
    exact he
end
end Go.Proofs.Ytbnihoioblmgkaa.Sy
end
