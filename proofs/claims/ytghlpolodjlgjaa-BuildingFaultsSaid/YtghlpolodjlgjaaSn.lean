/- The symbolic evaluator is sound: rows of their own (own work): append, copy, make, slices of slices. -/
import Derived.Test.YtghlpolodjlgjaaSt
import Derived.Deep.AppendSrc
import Derived.Laws.MakeOwn
namespace Go.Proofs.Ytghlpolodjlgjaa.Sy
open Go Go.RowKit
set_option linter.unusedVariables false
set_option linter.unusedSimpArgs false

section
variable {φ : Fr} {ν : Nat → Bool} {m : Map} {st : ASt} {a : Act} {w w' : World} {own : List (Nat × Bool)} {W : List Nat} {P : Program} {C : Ctx} {o : Oper} {e : Eff}
  {K : Act → World → Prop} {Q : Exit → Act → World → Prop}

theorem CR.cells {X : Nat → Nat → Prop} {c : Cell} {u : Value} (h : CR m X w c u) : u.cells = #[u] := by
  cases c with
  | lst t tl l => rcases h.1 with ⟨_, rfl⟩ | ⟨a, cap, rfl, _⟩ <;> rfl
  | box k off => obtain ⟨b, _, rfl⟩ := h; rfl
  | elem t l i off => obtain ⟨b, o, rfl, _⟩ := h; rfl
  | vref t k => obtain ⟨b, p, _, _, h2⟩ := h; rcases h2 with ⟨_, rfl⟩ | ⟨_, cap, T, rfl, _⟩ <;> rfl
  | velem t k i off => obtain ⟨b, p, _, _, rfl, _⟩ := h; rfl
  | fn f => cases f <;> (cases h; rfl)
  | clo f ks => obtain ⟨vs, rfl, _⟩ := h; rfl
  | aelem k off e len i => obtain ⟨b, _, rfl, _⟩ := h; rfl
  | _ => cases h; rfl

theorem TR.one {X : Nat → Nat → Prop} {t : Ty} {x : t.den} {vs : List Value} (h : TR w X t x vs) : ∀ u ∈ vs, u.oneCell' = true :=
  (enc_ok (m := fun _ => none) h).right fun _ _ h => CR.one h

/-- Rows of cells, whatever is excluded. -/
def RowsC (w : World) {α : Type} (n : Nat) (R : α → List Value → Prop) (l : List α) (b o : Nat) : Prop :=
  ∀ i (h : i < l.length), ∃ vs : List Value, vs.length = n ∧ (∀ j, (hj : j < n) → w.cell? ⟨b, o + (i * n + j), none⟩ = some (vs.getD j undef)) ∧ R l[i] vs

theorem rows_list {α : Type} {n : Nat} {R : α → List Value → Prop} {l : List α} {b o : Nat} (hn : 0 < n) (h : RowsC w n R l b o) :
    ∃ news : List Value, news.length = l.length * n ∧ (∀ j u, news[j]? = some u → w.cell? ⟨b, o + j, none⟩ = some u) ∧ ∀ i (hi : i < l.length), R l[i] ((news.drop (i * n)).take n) := by
  let news : List Value := (List.range (l.length * n)).map fun j => (w.cell? ⟨b, o + j, none⟩).getD undef
  have hcell : ∀ j, j < l.length * n → ∃ u, w.cell? ⟨b, o + j, none⟩ = some u := by
    intro j hj
    have h1 : j / n < l.length := (Nat.div_lt_iff_lt_mul hn).2 hj
    obtain ⟨vs, _, hc, _⟩ := h (j / n) h1
    have := hc (j % n) (Nat.mod_lt _ hn)
    rw [show j / n * n + j % n = j by rw [Nat.mul_comm]; exact Nat.div_add_mod j n] at this
    exact ⟨_, this⟩
  have hget : ∀ j, news[j]? = if j < l.length * n then some ((w.cell? ⟨b, o + j, none⟩).getD undef) else none := by
    intro j
    simp only [news, List.getElem?_map]
    split
    · rename_i hj; rw [List.getElem?_range hj]; rfl
    · rename_i hj; rw [List.getElem?_eq_none (by simpa using hj)]; rfl
  refine ⟨news, by simp [news], fun j u hu => ?_, fun i hi => ?_⟩
  · rw [hget] at hu
    split at hu
    · rename_i hj
      obtain ⟨v, hv⟩ := hcell j hj
      rw [hv] at hu ⊢
      simpa using hu
    · cases hu
  · obtain ⟨vs, hl, hc, hr⟩ := h i hi
    have him : i * n + n ≤ l.length * n := by rw [← Nat.succ_mul]; exact Nat.mul_le_mul_right _ hi
    have : (news.drop (i * n)).take n = vs := by
      apply List.ext_getElem?
      intro j
      rw [chunk_get]
      split
      · rename_i hj
        rw [hget, if_pos (by omega), hc j hj]
        simp [List.getD_eq_getElem?_getD, List.getElem?_eq_getElem (show j < vs.length by omega)]
      · rw [List.getElem?_eq_none (by omega)]
    rw [this]; exact hr

theorem VecAt.rows {X : Nat → Nat → Prop} {b : Nat} {T : TypeId} {t : Ty} {l : List t.den} (h : VecAt X w b T t l) : RowsC w t.n (TR w X t) l b 0 := by
  obtain ⟨vs, cap, ⟨z, h1, _⟩, h2, h3, h4, h5⟩ := h
  intro i hi
  have him : i * t.n + t.n ≤ vs.size := by rw [h2, ← Nat.succ_mul]; exact Nat.mul_le_mul_right _ (by omega)
  refine ⟨_, by simp; omega, fun j hj => ?_, h5 i hi⟩
  rw [cell_heap h1, List.getD_eq_getElem?_getD, chunk_get, if_pos hj, Array.getElem?_toList, Nat.zero_add, Array.getElem?_eq_getElem (by omega)]
  rfl

theorem RowsC.ok {X : Nat → Nat → Prop} {α : Type} {n : Nat} {R R' : α → List Value → Prop} {l : List α} {b o : Nat} (h : RowsC w n R l b o) (hR : ∀ x vs, R x vs → R' x vs) (hX : ∀ p, o ≤ p → p < o + l.length * n → ¬ X b p) : RowsOk w X n R' l b o :=
  ⟨fun i hi => by obtain ⟨vs, h1, h2, h3⟩ := h i hi; exact ⟨vs, h1, h2, hR _ _ h3⟩, hX⟩

/-- What is excluded but for some rows. -/
def Xc (φ : Fr) (m : Map) (ks : List Nat) (b q : Nat) : Prop := XA φ m b q ∧ ∀ k ∈ ks, ∀ p, p % 2 = 0 → 0 < p → m k ≠ some (b, p)

theorem keeps_same {X : Nat → Nat → Prop} : Keeps X w w := ⟨Nat.le_refl _, fun _ _ _ _ => rfl, fun _ _ => rfl, fun _ _ _ => rfl⟩

theorem Xc.less {ks : List Nat} : NoMore w (XA φ m) (Xc φ m ks) := fun _ _ _ h => h.1

theorem castL_eq {a b : Ty} {l : List a.den} {l' : List b.den} (h : castL a b l = some l') : ∃ e : a = b, l' = e ▸ l := castL_ok h

theorem unvC_ok (hs : SatM φ ν m st a w) {fr : Bool} {c c' : Cell} {v : Value} (h : unvC fr st c = some c') (hv : CR m (XA φ m) w c v) {ks : List Nat} (hk : fr = false → ∀ k ∈ vksL [c], k ∈ ks) : CR m (Xc φ m ks) w c' v := by
  have plain : c' = c → CR m (Xc φ m ks) w c' v := fun hc => hc ▸ CR.mono keeps_same Xc.less (fun _ _ _ h => h) _ _ hv
  cases c with
  | vref e k =>
    simp only [unvC] at h
    obtain ⟨b, p, hm, hp, hval⟩ := hv
    have fin : ∀ {l : List e.den}, RowsC w e.n (TR w (XA φ m) e) l b 0 → (∀ q, q < l.length * e.n → ¬ Xc φ m ks b q) → vlen p = l.length → (p = 1 → l = []) → CR m (Xc φ m ks) w (.lst e .no l) v := by
      intro l hr hx hlen h1
      refine ⟨?_, trivial⟩
      rcases hval with ⟨h2, h3⟩ | ⟨h2, cap, T, h3, h4, h5, h6⟩
      · exact .inl ⟨h1 h2, h3⟩
      · refine .inr ⟨⟨b, 0, none⟩, cap, by rw [← hlen]; exact h3, by omega, h6, fun _ => rfl, hr.ok (fun x vs h => h.mono keeps_same Xc.less _ _ _) fun q _ hq => hx q (by simpa using hq)⟩
    split at h
    · rename_i ow T e' l hbx
      cases hfr : fr with
      | true => rw [hfr] at h; cases h
      | false =>
        rw [hfr] at h
        simp only [cnd] at h
        split at h
        case h_2 => cases h
        rename_i l' hl'
        cases h
        obtain ⟨rfl, rfl⟩ := castL_eq hl'
        obtain ⟨b', p', h1, h2⟩ := hs.box k _ hbx
        rw [hm] at h1
        cases h1
        have hin : k ∈ ks := hk hfr k (by simp [vksL])
        rcases h2 with ⟨rfl, rfl⟩ | ⟨rfl, h2⟩ | ⟨_, rfl, h2, _⟩
        · exact fin (fun i hi => by simp at hi) (fun q hq => by simp at hq) (by simp [vlen]) (fun _ => rfl)
        · exact fin h2.rows (fun q _ hx => hx.2 k hin _ (by omega) (by omega) hm) (vlen_live _) (fun h => by omega)
        · exact fin h2.1 (fun q hq hx => h2.2 q (Nat.zero_le _) (by simpa using hq) hx.1) (vlen_dead _) (fun h => by omega)
    · rename_i e' l hbx
      split at h
      case h_2 => cases h
      rename_i l' hl'
      cases h
      obtain ⟨rfl, rfl⟩ := castL_eq hl'
      obtain ⟨b', p', h1, h2⟩ := hs.box k _ hbx
      rw [hm] at h1
      cases h1
      rcases h2 with ⟨rfl, rfl⟩ | ⟨rfl, h2⟩
      · exact fin (fun i hi => by simp at hi) (fun q hq => by simp at hq) (by simp [vlen]) (fun _ => rfl)
      · exact fin h2.1 (fun q hq hx => h2.2 q (Nat.zero_le _) (by simpa using hq) hx.1) (vlen_dead _) (fun h => by omega)
    · cases h
  | _ => simp only [unvC, Option.some.injEq] at h; exact plain h.symm

theorem unvL_ok (hs : SatM φ ν m st a w) {fr : Bool} {ks : List Nat} : ∀ {cs cs' : List Cell} {vs : List Value}, unvL fr st cs = some cs' → CRs m (XA φ m) w cs vs → (fr = false → ∀ k ∈ vksL cs, k ∈ ks) → CRs m (Xc φ m ks) w cs' vs
  | [], cs', vs, h, hv, hk => by simp only [unvL, Option.some.injEq] at h; subst h; match vs, hv with | [], _ => exact trivial
  | c :: cs, cs', [], h, hv, hk => hv.elim
  | c :: cs, cs', v :: vs, h, hv, hk => by
    simp only [unvL] at h
    split at h
    case h_2 => cases h
    rename_i c1 r1 h1 h2
    cases h
    refine ⟨unvC_ok hs h1 hv.1 (fun hf k hk' => hk hf k ?_), unvL_ok hs h2 hv.2 (fun hf k hk' => hk hf k ?_)⟩
    · cases c <;> simp_all [vksL]
    · cases c <;> simp_all [vksL]

theorem unvS_ok (hs : SatM φ ν m st a w) {fr : Bool} {ks : List Nat} {x y : SV} {v : Value} (h : unvS fr st x = some y) (hv : SR m (XA φ m) w x v) (hk : fr = false → ∀ k ∈ vksL x.cells, k ∈ ks) : SR m (Xc φ m ks) w y v := by
  cases x with
  | one c =>
    simp only [unvS] at h
    split at h
    case h_2 => cases h
    rename_i c' hc
    cases h
    exact unvC_ok hs hc hv hk
  | agg cs =>
    simp only [unvS] at h
    split at h
    case h_2 => cases h
    rename_i c' hc
    cases h
    obtain ⟨vs, rfl, h2⟩ := hv
    exact ⟨vs, rfl, unvL_ok hs hc h2 hk⟩

theorem unvSs_ok (hs : SatM φ ν m st a w) {fr : Bool} {ks : List Nat} : ∀ {xs ys : List SV} {vs : List Value}, unvSs fr st xs = some ys → All2 (SR m (XA φ m) w) xs vs → (fr = false → ∀ k ∈ vksS xs, k ∈ ks) → All2 (SR m (Xc φ m ks) w) ys vs
  | [], ys, vs, h, hv, hk => by simp only [unvSs, Option.some.injEq] at h; subst h; match vs, hv with | [], _ => exact trivial
  | x :: xs, ys, [], h, hv, hk => hv.elim
  | x :: xs, ys, v :: vs, h, hv, hk => by
    simp only [unvSs] at h
    split at h
    case h_2 => cases h
    rename_i c1 r1 h1 h2
    cases h
    exact ⟨unvS_ok hs h1 hv.1 (fun hf k hk' => hk hf k (by simp [vksS, app_eq, hk'])), unvSs_ok hs h2 hv.2 (fun hf k hk' => hk hf k (by simp [vksS, app_eq, hk']))⟩

theorem apSrc_spec {el : Nat} {ety : Ty} {c : Cell} {l1 : List ety.den} {j : Option Nat} {ow : Bool} (h : apSrc st el ety c = some (l1, j, ow)) :
    (j = none ∧ c = .lst ety .exact l1 ∧ ow = isNilB l1) ∨ ∃ e1 k, c = .vref e1 k ∧ j = some k ∧ e1.n = ety.n ∧ st.box k = some (.vec ow el ety l1) := by
  cases c with
  | lst e1 tl l =>
    cases tl with
    | no => cases h
    | exact =>
      simp only [apSrc] at h
      split at h
      case h_2 => cases h
      rename_i l' hl'
      cases h
      obtain ⟨e0, h2⟩ := castL_eq hl'
      subst e0
      simp only at h2
      subst h2
      exact .inl ⟨rfl, rfl, rfl⟩
  | vref e1 k =>
    simp only [apSrc] at h
    split at h
    case h_2 => cases h
    rename_i ow0 T0 e2 l hbx
    split at h
    case h_2 => cases h
    rename_i l' hl'
    obtain ⟨hc, h⟩ := cnd_some h
    obtain ⟨hc1, hc2⟩ := andd_true hc
    have hc1 := beq_eq hc1
    have hc2 := beq_eq hc2
    cases h
    obtain ⟨e0, h2⟩ := castL_eq hl'
    subst e0
    simp only at h2
    subst h2
    subst hc1
    exact .inr ⟨e1, k, rfl, rfl, hc2, hbx⟩
  | _ => cases h

/-- What is known of an element's type. -/
theorem zeroVs_len : ∀ t : Ty, (zeroVs t).length = t.n := by
  intro t
  induction t with
  | pair a b iha ihb => simp [zeroVs, Ty.n, iha, ihb]
  | _ => rfl
theorem zero_TR {X : Nat → Nat → Prop} : ∀ t : Ty, TR w X t t.dflt (zeroVs t) := by
  intro t
  induction t with
  | pair a b iha ihb => exact ⟨_, _, rfl, iha, ihb⟩
  | sl e ih => exact ⟨_, rfl, .inl ⟨rfl, rfl⟩⟩
  | _ => exact rfl

theorem elem_info (hC : CtxOk P C) {t el : TypeId} {d de : TD} {ety : Ty} (hD : C.D t = some d) (hk : d.kind = .slice el) (hty : d.ty = .sl ety) (hDe : C.D el = some de) (hde : de.ty.n = ety.n) (hn : 1 ≤ ety.n) :
    P.underlying t = some (.slice el) ∧ ∃ i z, P.info? el = some i ∧ i.size = ety.n ∧ i.zero = some z ∧ z.cells.toList = zeroVs ety ∧ i.bytes = de.bytes ∧ InfoOk P el ety (de.agg) := by
  obtain ⟨e0, hde0, hkd, _⟩ := (hC.D t d hD).desc
  unfold kindOk at hkd
  rw [hk] at hkd
  obtain ⟨_, rfl, t', ag, hty', hinfo⟩ := hkd
  rw [hty] at hty'
  cases hty'
  have hTe := hC.D el de hDe
  obtain ⟨i, hi1, hi2, hi3⟩ := hinfo.info
  obtain ⟨j, hj1, hj2, hj3⟩ := hTe.info.info
  rw [hi1] at hj1
  cases hj1
  have hb := hC.bytes el de i hDe hi1 (by omega)
  have heq : mkV ag (zeroVs ety) = mkV de.agg (zeroVs de.ty) := by rw [hi3] at hj3; exact Option.some.inj hj3
  have hcells : (mkV ag (zeroVs ety)).cells.toList = zeroVs ety ∧ ag = de.agg := by
    cases hag : ag with
    | true =>
      refine ⟨rfl, ?_⟩
      rw [hag] at heq
      cases hda : de.agg with
      | true => rfl
      | false =>
        rw [hda] at heq
        have h1 := hTe.one hda
        have hz := zero_ok (m := fun _ => none) (X := fun _ _ => False) (w := default) de.ty
        cases hzv : zeroVs de.ty with
        | nil => have := zeroVs_len de.ty; rw [hzv, h1] at this; cases this
        | cons v r =>
          rw [hzv] at heq hz
          simp only [mkV, if_true, Bool.false_eq_true, if_false, List.headD_cons] at heq
          match hzc : zeroCells de.ty, hz with
          | c :: cs, hz => have := CR.one hz.1; rw [← heq] at this; cases this
    | false =>
      rw [hag] at heq
      have hz := zero_ok (m := fun _ => none) (X := fun _ _ => False) (w := default) ety
      cases hzv : zeroVs ety with
      | nil => have := zeroVs_len ety; rw [hzv] at this; simp at this; omega
      | cons v r =>
        rw [hzv] at heq hz
        simp only [mkV, Bool.false_eq_true, if_false, List.headD_cons] at heq ⊢
        match hzc : zeroCells ety, hz with
        | c :: cs, hz =>
          have hc := hz.1.cells
          rw [hc]
          cases hda : de.agg with
          | true =>
            rw [hda] at heq
            simp only [mkV, if_true] at heq
            have := CR.one hz.1
            rw [heq] at this
            cases this
          | false =>
            have h1 := hTe.one hda
            have := zeroVs_len ety
            rw [hzv, ← hde, h1] at this
            simp at this
            subst this
            exact ⟨rfl, rfl⟩
  refine ⟨hde0, i, _, hi1, hi2, hi3, hcells.1, hb, ?_⟩
  rw [← hcells.2]; exact hinfo

/-- The source of an append or a copy, as a row of values. -/
def SrcAt (P : Program) (w : World) (X : Nat → Nat → Prop) (ety : Ty) (tx : TypeId) (v : Value) (l2 : List ety.den) : Prop :=
  ∃ news : List Value, Src P ety.n tx v l2.length news w ∧ news.length = l2.length * ety.n ∧ (∀ u ∈ news, u.oneCell' = true) ∧ (∀ i (hi : i < l2.length), TR w X ety l2[i] ((news.drop (i * ety.n)).take ety.n)) ∧
    (l2 = [] ∨ ∃ (ad : Addr) (cap : Nat), v = .slice (some ad) l2.length cap ∧ ∀ j u, news[j]? = some u → w.cell? (ad.add j) = some u)

/-- The source of an append that makes its own elements: zeros. -/
structure ZSrc (P : Program) (el : TypeId) (tx : TypeId) (x : Value) (n : Nat) (news : List Value) : Prop where
  kind : ∃ k, P.underlying tx = some (.int k)
  val : ∃ k, x = .int k (n : Int)
  info : ∃ i z, P.info? el = some i ∧ i.zero = some z ∧ news = (Builtin.zeroCells z.cells n).toList ∧ n * i.bytes ≤ 281474976710656
  big : n ≤ 4611686018427387903
/-- The source of an append. -/
def SrcA (P : Program) (w : World) (X : Nat → Nat → Prop) (ety : Ty) (el tx : TypeId) (v : Value) (l2 : List ety.den) : Prop :=
  ∃ news : List Value, (Src P ety.n tx v l2.length news w ∨ ZSrc P el tx v l2.length news) ∧ news.length = l2.length * ety.n ∧ (∀ u ∈ news, u.oneCell' = true) ∧ (∀ i (hi : i < l2.length), TR w X ety l2[i] ((news.drop (i * ety.n)).take ety.n))
theorem srcA_of {w : World} {X : Nat → Nat → Prop} {ety : Ty} {el tx : TypeId} {v : Value} {l2 : List ety.den} (h : SrcAt P w X ety tx v l2) : SrcA P w X ety el tx v l2 := by
  obtain ⟨news, h1, h2, h3, h4, _⟩ := h
  exact ⟨news, .inl h1, h2, h3, h4⟩
theorem stb_length (s : ByteArray) : (stb s).length = s.size := by
  unfold stb
  rw [List.length_map, Array.length_toList]
  rfl
theorem srcA_str {w : World} {X : Nat → Nat → Prop} {el tx : TypeId} (hk : P.underlying tx = some .string) (s : ByteArray) : SrcA P w X (.int .u8) el tx (.string s) (stb s) := by
  refine ⟨byteCells s, .inl ?_, ?_, (Src.ofString w hk s).one, fun i hi => ?_⟩
  · rw [stb_length]; exact Src.ofString w hk s
  · rw [byteCells_length, stb_length]; simp [Ty.n]
  · rw [stb_length] at hi
    have hi2 : i < s.data.toList.length := by rw [Array.length_toList]; exact hi
    show List.take 1 ((byteCells s).drop (i * 1)) = [Value.int .u8 (stb s)[i]]
    have h1 : (byteCells s).drop (i * 1) = (.int .u8 (stb s)[i]) :: (byteCells s).drop (i + 1) := by
      rw [Nat.mul_one, List.drop_eq_getElem_cons (by rw [byteCells_length]; exact hi)]
      simp [byteCells, stb]
    rw [h1]; rfl

/-- What a source is. -/
def RowV (w : World) (X : Nat → Nat → Prop) (ety : Ty) (v : Value) (l2 : List ety.den) : Prop :=
  (l2 = [] ∧ v = .slice none 0 0) ∨ (∃ (ad : Addr) (cap : Nat), v = .slice (some ad) l2.length cap ∧ (l2 ≠ [] → ad.spot = none) ∧ RowsC w ety.n (TR w X ety) l2 ad.block ad.off)
theorem apNew_rows (hs : SatM φ ν m st a w) {ety : Ty} {c : Cell} {v : Value} {l2 : List ety.den} (h : apNew st ety c = some l2) (hv : CR m (XA φ m) w c v) :
    RowV w (XA φ m) ety v l2 := by
  have main : RowV w (XA φ m) ety v l2 → RowV w (XA φ m) ety v l2 := fun h => h
  have ofLR : ∀ {X : Nat → Nat → Prop}, LR w X ety.n (TR w (XA φ m) ety) l2 v → RowV w (XA φ m) ety v l2 := by
    rintro X (h1 | ⟨ad, cap, h1, _, _, h4, h5⟩)
    · exact main (.inl h1)
    · exact main (.inr ⟨ad, cap, h1, h4, h5.1⟩)
  cases c with
  | lst e1 tl l =>
    obtain ⟨rfl, rfl⟩ := castL_eq (show castL e1 ety l = some l2 from h)
    exact ofLR hv.1
  | vref e1 k =>
    simp only [apNew, unvC] at h
    obtain ⟨b, p, hm, hp, hval⟩ := hv
    have fin : RowsC w ety.n (TR w (XA φ m) ety) l2 b 0 → vlen p = l2.length → (p = 1 → l2 = []) → RowV w (XA φ m) ety v l2 := by
      intro hr hlen h1
      rcases hval with ⟨h2, h3⟩ | ⟨h2, cap, T, h3, h4, h5, h6⟩
      · exact main (.inl ⟨h1 h2, h3⟩)
      · exact main (.inr ⟨⟨b, 0, none⟩, cap, by rw [← hlen]; exact h3, fun _ => rfl, hr⟩)
    cases hbx : st.box k with
    | none => simp [hbx] at h
    | some bx =>
      cases bx with
      | cells cs => simp [hbx] at h
      | ro cs => simp [hbx] at h
      | tok => simp [hbx] at h
      | vec ow T e' l =>
        simp only [hbx, cnd] at h
        cases hcl : castL e' e1 l with
        | none => simp [hcl] at h
        | some l1 =>
          simp only [hcl] at h
          obtain ⟨rfl, rfl⟩ := castL_eq hcl
          obtain ⟨rfl, rfl⟩ := castL_eq h
          obtain ⟨b', p', h1, h2⟩ := hs.box k _ hbx
          rw [hm] at h1
          cases h1
          rcases h2 with ⟨rfl, rfl⟩ | ⟨rfl, h2⟩ | ⟨_, rfl, h2, _⟩
          · exact fin (fun i hi => by simp at hi) (by simp [vlen]) (fun _ => rfl)
          · exact fin h2.rows (vlen_live _) (fun h => by omega)
          · exact fin h2.1 (vlen_dead _) (fun h => by omega)
      | frz e' l =>
        simp only [hbx] at h
        cases hcl : castL e' e1 l with
        | none => simp [hcl] at h
        | some l1 =>
          simp only [hcl] at h
          obtain ⟨rfl, rfl⟩ := castL_eq hcl
          obtain ⟨rfl, rfl⟩ := castL_eq h
          obtain ⟨b', p', h1, h2⟩ := hs.box k _ hbx
          rw [hm] at h1
          cases h1
          rcases h2 with ⟨rfl, rfl⟩ | ⟨rfl, h2⟩
          · exact fin (fun i hi => by simp at hi) (by simp [vlen]) (fun _ => rfl)
          · exact fin h2.1 (vlen_dead _) (fun h => by omega)
  | _ => cases h

/-- The source of an append or a copy. -/
theorem apNew_ok (hs : SatM φ ν m st a w) {ety : Ty} {c : Cell} {v : Value} {l2 : List ety.den} (h : apNew st ety c = some l2) (hv : CR m (XA φ m) w c v) (hn : 0 < ety.n) {tx e' : TypeId} (htx : P.underlying tx = some (.slice e')) :
    SrcAt P w (XA φ m) ety tx v l2 := by
  have main : (l2 = [] ∧ v = .slice none 0 0) ∨ (∃ (ad : Addr) (cap : Nat), v = .slice (some ad) l2.length cap ∧ (l2 ≠ [] → ad.spot = none) ∧ RowsC w ety.n (TR w (XA φ m) ety) l2 ad.block ad.off) →
      SrcAt P w (XA φ m) ety tx v l2 := by
    rintro (⟨rfl, rfl⟩ | ⟨ad, cap, rfl, hsp, hr⟩)
    · exact ⟨[], Src.ofNil w htx 0, by simp, (fun _ h => by cases h), (fun i hi => by simp at hi), .inl rfl⟩
    · obtain ⟨news, h1, h2, h3⟩ := rows_list hn hr
      have hone : ∀ u ∈ news, u.oneCell' = true := by
        intro u hu
        obtain ⟨j, hj, rfl⟩ := List.getElem_of_mem hu
        have hjn : j / ety.n < l2.length := (Nat.div_lt_iff_lt_mul hn).2 (by omega)
        refine (h3 (j / ety.n) hjn).one _ (List.mem_iff_getElem?.2 ⟨j % ety.n, ?_⟩)
        rw [chunk_get, if_pos (Nat.mod_lt _ hn), show j / ety.n * ety.n + j % ety.n = j by rw [Nat.mul_comm]; exact Nat.div_add_mod j ety.n, List.getElem?_eq_getElem hj]
      have hcell : ∀ j u, news[j]? = some u → w.cell? (ad.add j) = some u := ?_
      · exact ⟨news, Src.ofSlice w htx ad _ cap news h1 hcell hone, h1, hone, h3, .inr ⟨ad, cap, rfl, hcell⟩⟩
      intro j u hu
      have hne : l2 ≠ [] := by
        intro h0
        subst h0
        have := (List.getElem?_eq_some_iff.1 hu).1
        simp at h1
        subst h1
        simp at this
      obtain ⟨b, o', sp⟩ := ad
      have := hsp hne
      simp only at this
      subst this
      rw [add_none]; exact h2 j u hu
  exact main (apNew_rows hs h hv)

/-- A row that is new. -/
theorem At.newRow (h : At P C φ ν own W st o e m a w K) {k b p : Nat} {bx : Bx} {tv : TV} {v : Value} {kl : Option Nat} (hdst : o.dst = some k) (hnone : st.box k = none)
    (hed : e.dst = some (k, tv)) (heb : e.bxs = (k, some bx) :: killO kl) (hkl : ∀ j, kl = some j → ∃ ow T t l, st.box j = some (.vec ow T t l))
    (hrun : (execOp a.eval o).run P w = .ok (.value v) w') (hb : Below w.heap.size w w') (hblk : p % 2 = 0 → w.heap.size ≤ b ∧ b < w'.heap.size)
    (hbx : ∀ m', m' k = some (b, p) → MLe m m' → NoMore w (XA φ m) (XA φ m') → BoxOk m' (XA φ m') w' k bx)
    (hv : ∀ m', m' k = some (b, p) → VR m' (XA φ m') w' tv v) : o.wp P a w K Q := by
  unfold Oper.wp
  rw [hrun]
  show K (a.put o.dst v) w'
  rw [hdst]
  refine h.next _ _ ?_
  have h1 := h.sat.newKey hnone hb (fun hp => (hblk hp).1) (fun hp => (hblk hp).2) (fun m' x1 x2 x3 _ => hbx m' x1 x2 x3)
  have h2 := h1.put (h.dst k hdst).1 (h.dst k hdst).2 h.tags (hv _ (by simp))
  have hst : ∀ (kl : Option Nat), e.apply own st = { slot := ((Eff.mk none (some (k, tv)) []).apply own st).slot, box := applyB e.bxs st.box } := fun _ => by
    obtain ⟨q1, q2, q3⟩ := e
    simp only at hed
    subst hed
    rfl
  rw [hst kl, heb]
  cases kl with
  | none => simp only [killO]; rw [applyB_one]; exact ⟨_, h2⟩
  | some j =>
    obtain ⟨ow, T, t, l, hj⟩ := hkl j rfl
    have hjk : j ≠ k := fun e => by rw [e, hnone] at hj; cases hj
    have h3 := h2.dead (k := j) (bx := .tok) (bx0 := .vec ow T t l) (by show (if j = k then _ else _) = _; rw [if_neg hjk]; exact hj) (fun _ _ _ _ _ _ => trivial)
      (fun b' hb' => by
        have hb' : (if j = k then some (b, p) else m j) = some (b', 0) := hb'
        rw [if_neg hjk] at hb'
        obtain ⟨b2, p2, h4, h5⟩ := h.sat.box j _ hj
        rw [hb'] at h4
        cases h4
        rcases h5 with ⟨_, h5⟩ | ⟨h5, _⟩ | ⟨_, h5, _⟩ <;> omega)
    have hbe : applyB [(k, some bx), (j, some .tok)] st.box = fun u => if u = j then some .tok else if u = k then some bx else st.box u := by
      funext u
      simp only [applyB]
      by_cases huk : u = k
      · rw [cnd_beq_true huk, if_neg (fun e => hjk (e.symm.trans huk)), if_pos huk]
      · rw [cnd_beq_false huk]
        by_cases huj : u = j
        · rw [cnd_beq_true huj, if_pos huj]
        · rw [cnd_beq_false huj, if_neg huj, if_neg huk]
    simp only [killO]
    rw [hbe]
    exact h3

/-- A row under another name. -/
theorem At.moveRow (h : At P C φ ν own W st o e m a w K) {k j b p pd : Nat} {bx : Bx} {tv : TV} {v : Value} (hdst : o.dst = some k) (hnone : st.box k = none)
    (hed : e.dst = some (k, tv)) (heb : e.bxs = (k, some bx) :: killO (some j)) {ow : Bool} {T : TypeId} {t : Ty} {l : List t.den} (hj : st.box j = some (.vec ow T t l)) (hm : m j = some (b, p)) (hp : 0 < p)
    (hrun : (execOp a.eval o).run P w = .ok (.value v) w') (hkeep : Keeps (XA φ m) w w') (hblk : ∀ b', (p % 2 = 0 → b' ≠ b) → w'.heap[b']? = w.heap[b']?) (hsz : w'.heap.size = w.heap.size) (hw : w'.os = w.os ∧ w'.tape = w.tape ∧ w'.output = w.output)
    (hpd : pd % 2 = p % 2) (hpd0 : 0 < pd)
    (hbx : ∀ m', m' k = some (b, pd) → MLe m m' → NoMore w (XA φ m) (XA φ m') → BoxOk m' (XA φ m') w' k bx)
    (hv : ∀ m', m' k = some (b, pd) → VR m' (XA φ m') w' tv v) : o.wp P a w K Q := by
  unfold Oper.wp
  rw [hrun]
  show K (a.put o.dst v) w'
  rw [hdst]
  refine h.next _ _ ?_
  obtain ⟨m', h0, h1⟩ := h.sat.moveKey hnone hj rfl hm hp hkeep hblk hsz hw hpd hpd0 hbx
  have h2 := h1.put (h.dst k hdst).1 (h.dst k hdst).2 h.tags (hv m' h0)
  have hst : e.apply own st = { slot := ((Eff.mk none (some (k, tv)) []).apply own st).slot, box := applyB e.bxs st.box } := by
    obtain ⟨q1, q2, q3⟩ := e
    simp only at hed
    subst hed
    rfl
  have hbe : applyB [(k, some bx), (j, some .tok)] st.box = fun u => if u = k then some bx else if u = j then some .tok else st.box u := by
    funext u
    simp only [applyB]
    by_cases huk : u = k
    · rw [cnd_beq_true huk, if_pos huk]
    · rw [cnd_beq_false huk, if_neg huk]
      by_cases huj : u = j
      · rw [cnd_beq_true huj, if_pos huj]
      · rw [cnd_beq_false huj, if_neg huj]
  rw [hst, heb, show killO (some j) = [(j, some .tok)] from rfl, hbe]
  exact ⟨m', h2⟩

theorem append_nothing (t tx ty e : TypeId) (i : TypeInfo) (ht : P.underlying t = some (.slice e)) (hi : P.info? e = some i) (base : Option Addr) (sLen sCap : Nat) (hle : sLen ≤ sCap) {x : Value} (hs : Src P i.size tx x 0 [] w) :
    (Builtin.append_ #[t, tx] ty #[.slice base sLen sCap, x]).run P w = .ok (.slice base sLen sCap) w := by
  rcases hs.kind with ⟨e', hk⟩ | hk <;> cases base <;> simp [Builtin.append_, run_underlying ht, run_underlying hk, sizeOf, typeInfo, hi, hs.len, hle, hs.cells, storeCells]

/-- An append for which there is room. -/
theorem run_append_row (t tx ty e : TypeId) (i : TypeInfo) (ht : P.underlying t = some (.slice e)) (hi : P.info? e = some i) (g sLen sCap : Nat) (cur : Array Value) {z : Nat × Nat} (hg : w.heap[g]? = some (.cells cur e z)) (hz : FzOk z cur.size)
    {x : Value} {n : Nat} {news : List Value} (hs : Src P i.size tx x n news w) (hroom : sLen + n ≤ sCap) (hfit : sLen * i.size + news.length ≤ cur.size) :
    (Builtin.append_ #[t, tx] ty #[.slice (some ⟨g, 0, none⟩) sLen sCap, x]).run P w =
      .ok (.slice (some ⟨g, 0, none⟩) (sLen + n) sCap) (w.setRow g (cur.toList.take (sLen * i.size) ++ news ++ cur.toList.drop (sLen * i.size + news.length)).toArray) := by
  have hst := run_storeCells_row (P := P) g (sLen * i.size) e news 0 cur w hg hz (by simpa using hfit) hs.one
  simp only [Nat.add_zero] at hst
  rcases hs.kind with ⟨e', hk⟩ | hk <;> simp [Builtin.append_, run_underlying ht, run_underlying hk, sizeOf, typeInfo, hi, hs.len, hroom, hs.cells, Addr.add_lit, hst]

theorem run_asInt (k : IntKind) (n : Int) (w : World) : (asInt (.int k n)).run P w = .ok n w := by simp [asInt, asIntOf]
theorem zeroCells_nil (z : Array Value) : Builtin.zeroCells z 0 = #[] := by simp [Builtin.zeroCells]
theorem append_nothingZ (t tx ty e : TypeId) (i : TypeInfo) (ht : P.underlying t = some (.slice e)) (hi : P.info? e = some i) (base : Option Addr) (sLen sCap : Nat) (hle : sLen ≤ sCap) {x : Value} (hs : ZSrc P e tx x 0 []) :
    (Builtin.append_ #[t, tx] ty #[.slice base sLen sCap, x]).run P w = .ok (.slice base sLen sCap) w := by
  obtain ⟨⟨k, hk⟩, ⟨k2, rfl⟩, _, _⟩ := hs
  cases base <;> simp [Builtin.append_, run_underlying ht, run_underlying hk, sizeOf, typeInfo, hi, hle, storeCells, run_asInt, IntKind.wrap_i64]
theorem run_append_rowZ (t tx ty e : TypeId) (i : TypeInfo) (ht : P.underlying t = some (.slice e)) (hi : P.info? e = some i) (g sLen sCap : Nat) (cur : Array Value) {z : Nat × Nat} (hg : w.heap[g]? = some (.cells cur e z)) (hz : FzOk z cur.size)
    {x : Value} {n : Nat} {news : List Value} (hs : ZSrc P e tx x n news) (h1 : ∀ u ∈ news, u.oneCell' = true) (hn1 : 0 < n) (hsz : 0 < i.size) (hroom : sLen + n ≤ sCap) (hfit : sLen * i.size + news.length ≤ cur.size) :
    (Builtin.append_ #[t, tx] ty #[.slice (some ⟨g, 0, none⟩) sLen sCap, x]).run P w =
      .ok (.slice (some ⟨g, 0, none⟩) (sLen + n) sCap) (w.setRow g (cur.toList.take (sLen * i.size) ++ news ++ cur.toList.drop (sLen * i.size + news.length)).toArray) := by
  have hst := run_storeCells_row (P := P) g (sLen * i.size) e news 0 cur w hg hz (by simpa using hfit) h1
  simp only [Nat.add_zero] at hst
  obtain ⟨⟨k, hk⟩, ⟨k2, rfl⟩, ⟨i2, zv, hi2, hzv, rfl, hby⟩, hbig⟩ := hs
  rw [hi] at hi2; cases hi2
  have hw : IntKind.i64.wrap (n : Int) = (n : Int) := by rw [IntKind.wrap_i64]; omega
  have hb' : ¬ (281474976710656 < (n : Int) * (i.bytes : Int)) := by
    have : ((n * i.bytes : Nat) : Int) ≤ 281474976710656 := by omega
    rw [Int.natCast_mul] at this
    omega
  have hn0 : ¬ ((n : Int) < 0) := by omega
  simp [Builtin.append_, run_underlying ht, run_underlying hk, sizeOf, typeInfo, hi, hw, hb', hn0, run_asInt, zeroValue, hzv, hroom, Addr.add_lit, hst]
  intro h
  rcases Nat.mul_eq_zero.1 h with h | h <;> omega
theorem run_append_growZ (t tx ty e : TypeId) (i : TypeInfo) (z : Value) (ht : P.underlying t = some (.slice e)) (hi : P.info? e = some i) (hz : i.zero = some z) (base : Option Addr) (sLen sCap : Nat) (olds : List Value)
    (hold : (Builtin.firstCells i.size sLen (.slice base sLen sCap)).run P w.drew = .ok olds.toArray w.drew) (x : Value) (n : Nat) (news : List Value) (hs : ZSrc P e tx x n news) (hn1 : 0 < n) (hsz : 0 < i.size)
    (hg : sCap < sLen + n) (h63 : ((sLen + n : Nat) : Int) ≤ 9223372036854775807) (hfit : Builtin.nextslicecap (sLen + n) sCap * i.bytes ≤ 281474976710656) :
    (Builtin.append_ #[t, tx] ty #[.slice base sLen sCap, x]).run P w =
      .ok (.slice (some ⟨w.heap.size, 0, none⟩) (sLen + n) (grownCap w (sLen + n) sCap e))
        (w.drew.alloc (.cells ((olds ++ news).toArray ++ Builtin.zeroCells z.cells (grownCap w (sLen + n) sCap e - (sLen + n))) e)) := by
  obtain ⟨⟨k, hk⟩, ⟨k2, rfl⟩, ⟨i2, zv, hi2, hzv, rfl, hby⟩, hbig⟩ := hs
  rw [hi] at hi2; cases hi2
  rw [hz] at hzv; cases hzv
  have hn : ¬ (sLen + n ≤ sCap) := by omega
  have h63' : ¬ (9223372036854775807 < ((sLen : Int) + (n : Int))) := by omega
  have h48' : ¬ (281474976710656 < Builtin.nextslicecap (sLen + n) sCap * i.bytes) := by omega
  have hw : IntKind.i64.wrap (n : Int) = (n : Int) := by rw [IntKind.wrap_i64]; omega
  have hb' : ¬ (281474976710656 < (n : Int) * (i.bytes : Int)) := by
    have : ((n * i.bytes : Nat) : Int) ≤ 281474976710656 := by omega
    rw [Int.natCast_mul] at this
    omega
  have hn0 : ¬ ((n : Int) < 0) := by omega
  have hm0 : ¬ (n * i.size = 0) := fun h => by rcases Nat.mul_eq_zero.1 h with h | h <;> omega
  simp [Builtin.append_, run_underlying ht, run_underlying hk, sizeOf, typeInfo, zeroValue, hi, hz, hw, hb', hn0, run_asInt, hn, h63', h48', hm0, Question.forced, hold, newRow, grownCap]
  congr 2
  apply Array.ext'
  simp [List.append_assoc]
theorem append_nothingX (t tx ty e : TypeId) (i : TypeInfo) (ht : P.underlying t = some (.slice e)) (hi : P.info? e = some i) (base : Option Addr) (sLen sCap : Nat) (hle : sLen ≤ sCap) {x : Value} (hs : Src P i.size tx x 0 [] w ∨ ZSrc P e tx x 0 []) :
    (Builtin.append_ #[t, tx] ty #[.slice base sLen sCap, x]).run P w = .ok (.slice base sLen sCap) w :=
  hs.elim (fun h => append_nothing t tx ty e i ht hi base sLen sCap hle h) (fun h => append_nothingZ t tx ty e i ht hi base sLen sCap hle h)
theorem run_append_rowX (t tx ty e : TypeId) (i : TypeInfo) (ht : P.underlying t = some (.slice e)) (hi : P.info? e = some i) (g sLen sCap : Nat) (cur : Array Value) {z : Nat × Nat} (hg : w.heap[g]? = some (.cells cur e z)) (hz : FzOk z cur.size)
    {x : Value} {n : Nat} {news : List Value} (hs : Src P i.size tx x n news w ∨ ZSrc P e tx x n news) (h1 : ∀ u ∈ news, u.oneCell' = true) (hn1 : 0 < n) (hsz : 0 < i.size) (hroom : sLen + n ≤ sCap) (hfit : sLen * i.size + news.length ≤ cur.size) :
    (Builtin.append_ #[t, tx] ty #[.slice (some ⟨g, 0, none⟩) sLen sCap, x]).run P w =
      .ok (.slice (some ⟨g, 0, none⟩) (sLen + n) sCap) (w.setRow g (cur.toList.take (sLen * i.size) ++ news ++ cur.toList.drop (sLen * i.size + news.length)).toArray) :=
  hs.elim (fun h => run_append_row t tx ty e i ht hi g sLen sCap cur hg hz h hroom hfit) (fun h => run_append_rowZ t tx ty e i ht hi g sLen sCap cur hg hz h h1 hn1 hsz hroom hfit)

theorem run_append {c : Call} (hop : o.op = .call c) (hcal : c.callee = .builtin .append) {x y : Operand} {u : Value} {ts tx : TypeId} (hxy : c.args.toList = [x, y]) (hts : c.argTypes.toList = [ts, tx])
    (hrun : (Builtin.append_ #[ts, tx] o.type #[a.eval x, a.eval y]).run P w = .ok u w') : (execOp a.eval o).run P w = .ok (.value u) w' := by
  have hargs : c.args.map a.eval = #[a.eval x, a.eval y] := by apply Array.ext'; simp [hxy]
  have hat : c.argTypes = #[ts, tx] := by apply Array.ext'; simp [hts]
  simp only [execOp, hop, resolve, hcal, Sem.run_bind, Sem.run_pure, Result.andThen_ok, invoke, builtin, hargs, hat, hrun]
theorem run_copy {c : Call} (hop : o.op = .call c) (hcal : c.callee = .builtin .copy) {x y : Operand} {u : Value} {ts tx : TypeId} (hxy : c.args.toList = [x, y]) (hts : c.argTypes.toList = [ts, tx])
    (hrun : (Builtin.copy_ #[ts, tx] o.type #[a.eval x, a.eval y]).run P w = .ok u w') : (execOp a.eval o).run P w = .ok (.value u) w' := by
  have hargs : c.args.map a.eval = #[a.eval x, a.eval y] := by apply Array.ext'; simp [hxy]
  have hat : c.argTypes = #[ts, tx] := by apply Array.ext'; simp [hts]
  simp only [execOp, hop, resolve, hcal, Sem.run_bind, Sem.run_pure, Result.andThen_ok, invoke, builtin, hargs, hat, hrun]

theorem Below.drewAlloc (w : World) (ob : Obj) : Below w.heap.size w (w.drew.alloc ob) :=
  ((Below.refl _ _).drew).alloc (Nat.le_refl _) _

theorem chunk_append {α : Type} {xs ys : List α} {n i k : Nat} (hx : xs.length = k * n) : ((xs ++ ys).drop (i * n)).take n = if i < k then (xs.drop (i * n)).take n else (ys.drop ((i - k) * n)).take n := by
  apply List.ext_getElem?
  intro j
  split
  · rename_i hi
    rw [chunk_get, chunk_get]
    split
    · have := Nat.mul_le_mul_right n (show i + 1 ≤ k from hi)
      rw [Nat.succ_mul] at this
      rw [List.getElem?_append_left (by omega)]
    · rfl
  · rename_i hi
    rw [chunk_get, chunk_get]
    split
    · have h1 : k * n ≤ i * n := Nat.mul_le_mul_right n (by omega)
      rw [List.getElem?_append_right (by omega), hx]
      congr 1
      rw [Nat.mul_sub_right_distrib]
      omega
    · rfl

/-- A row that is new: old elements and others. -/
theorem grown_vec {X : Nat → Nat → Prop} {ety : Ty} {el : TypeId} {l1 l2 : List ety.den} {olds news rest : List Value} {cap : Nat} (ho : olds.length = l1.length * ety.n) (hn : news.length = l2.length * ety.n) (hr : rest.length = (cap - (l1.length + l2.length)) * ety.n) (hcap : l1.length + l2.length ≤ cap) (hmax : cap ≤ maxLen)
    (h1 : ∀ i (h : i < l1.length), TR w X ety l1[i] ((olds.drop (i * ety.n)).take ety.n)) (h2 : ∀ i (h : i < l2.length), TR w X ety l2[i] ((news.drop (i * ety.n)).take ety.n))
    {vs : Array Value} (hvs : vs.toList = olds ++ news ++ rest) {b : Nat} (hb : RowBlk w' b vs el) (hk : Keeps X w w') {X' : Nat → Nat → Prop} (hX : NoMore w X X') : VecAt X' w' b el ety (l1 ++ l2) := by
  refine ⟨vs, cap, hb, ?_, by simpa using hcap, hmax, fun i hi => ?_⟩
  · rw [← Array.length_toList, hvs]
    simp only [List.length_append, ho, hn, hr, ← Nat.add_mul]
    congr 1; omega
  · simp only [List.length_append] at hi
    have e1 : ((vs.toList.drop (i * ety.n)).take ety.n) = if i < l1.length then (olds.drop (i * ety.n)).take ety.n else (news.drop ((i - l1.length) * ety.n)).take ety.n := by
      rw [hvs, List.append_assoc, chunk_append ho]
      split
      · rfl
      · rw [chunk_append hn, if_pos (by omega)]
    rw [e1]
    by_cases hlt : i < l1.length
    · rw [if_pos hlt, List.getElem_append_left hlt]
      exact (h1 i hlt).mono hk hX _ _ _
    · rw [if_neg hlt, List.getElem_append_right (by omega)]
      exact (h2 _ (by omega)).mono hk hX _ _ _
end
end Go.Proofs.Ytghlpolodjlgjaa.Sy
