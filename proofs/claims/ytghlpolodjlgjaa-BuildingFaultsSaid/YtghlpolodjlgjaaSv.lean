/- The symbolic evaluator is sound: regions (own work). -/
import Derived.Test.YtghlpolodjlgjaaSu
namespace Go.Proofs.Ytghlpolodjlgjaa.Sy
open Go Go.RowKit
set_option linter.unusedVariables false
set_option linter.unusedSimpArgs false

section
variable {φ : Fr} {ν ν' : Nat → Bool} {m : Map} {st : ASt} {a : Act} {w w' : World} {own : List (Nat × Bool)} {W : List Nat} {P : Program} {C : Ctx} {o : Oper} {e : Eff}
  {K : Act → World → Prop} {Q : Exit → Act → World → Prop}

/-- What holds inside a region: the state, its conditions all of slots that the region has written, and what these say. -/
structure RegM (φ : Fr) (ν : Nat → Bool) (m : Map) (W : List Nat) (st : ASt) (a : Act) (w : World) : Prop where
  sat : SatM φ ν m st a w
  tags : ∀ t g, st.slot t = some g → ∀ x ∈ g.tags, x.1 ∈ W
  yes : ∀ d, d ∈ W → ∀ g c, st.slot d = some g → g.tv = .v (.one (.bool c)) → ν d = c

theorem holdsTags_congr {g : List (Nat × Bool)} (hg : ∀ x ∈ g, ν x.1 = ν' x.1) : holdsTags ν g ↔ holdsTags ν' g :=
  ⟨fun h x hx => (hg x hx).symm.trans (h x hx), fun h x hx => (hg x hx).trans (h x hx)⟩

/-- Another reading of conditions that no slot names. -/
theorem SatM.re (h : SatM φ ν m st a w) (hν : ∀ t g, st.slot t = some g → ∀ x ∈ g.tags, ν x.1 = ν' x.1) : SatM φ ν' m st a w :=
  { h with
    slot := fun t g hg ht => h.slot t g hg ((holdsTags_congr (hν t g hg)).2 ht)
    skip := fun t g hg ht => h.skip t g hg fun hh => ht ((holdsTags_congr (hν t g hg)).1 hh) }

theorem apply_slot {tv : TV} {bx : List (Nat × Option Bx)} {p : Option Prop} {d t : Nat} :
    ((Eff.mk p (some (d, tv)) bx).apply own st).slot t = if t = d then some ⟨own, tv⟩ else st.slot t := by
  show cnd (Nat.beq t d) _ _ = _
  by_cases h : t = d
  · rw [cnd_beq_true h, if_pos h]
  · rw [cnd_beq_false h, if_neg h]

/-- An operation whose conditions don't hold. -/
theorem SatM.skipOp (h : SatM φ ν m st a w) {tv : TV} {d : Nat} {p : Option Prop} (hd : d < φ.n) (hD : φ.D d = true) (hown : ¬ holdsTags ν own) :
    SatM φ ν m ((Eff.mk p (some (d, tv)) []).apply own st) (a.put (some d) undef) w where
  tmps := by simp [Act.put, h.tmps]
  defers := h.defers
  slot t g hg ht := by
    rw [apply_slot] at hg
    by_cases htd : t = d
    · rw [if_pos htd] at hg; cases hg; exact absurd ht hown
    · rw [if_neg htd] at hg
      simp only [Act.put]
      rw [getD_set_ne htd]
      exact h.slot t g hg ht
  skip t g hg ht := by
    rw [apply_slot] at hg
    by_cases htd : t = d
    · subst htd
      simp only [Act.put]
      rw [getD_set_same (by rw [h.tmps]; exact hd)]
    · rw [if_neg htd] at hg
      simp only [Act.put]
      rw [getD_set_ne htd]
      exact h.skip t g hg ht
  x0 := h.x0
  box k bx hk := h.box k bx hk
  inj := h.inj
  dom := h.dom
  low := h.low
  own := h.own
  vn := h.vn
  ngl := h.ngl
  n0 := h.n0
  glob := h.glob
  old := h.old
  keep := h.keep
  keepS := h.keepS
  keepT t ht := by
    have : t ≠ d := fun e => by rw [e, hD] at ht; cases ht
    simp only [Act.put]
    rw [getD_set_ne this]
    exact h.keepT t ht

/-- Boxes of which less is known. -/
def BxW (b1 b2 : Option Bx) : Prop := b1 = b2 ∨ ∃ new z, b1 = some (.cells new) ∧ b2 = some (.cells z) ∧ ∀ (m : Map) (X : Nat → Nat → Prop) (w : World) (vs : List Value), CRs m X w new vs → CRs m X w z vs
theorem SatM.weak {st st' : ASt} (h : SatM φ ν m st a w) (hs : st'.slot = st.slot) (hb : ∀ k, BxW (st.box k) (st'.box k)) : SatM φ ν m st' a w :=
  { h with
    slot := fun t g hg ht => h.slot t g (by rw [← hs]; exact hg) ht
    skip := fun t g hg ht => h.skip t g (by rw [← hs]; exact hg) ht
    box := fun k bx hk => by
      rcases hb k with e | ⟨new, z, e1, e2, e3⟩
      · exact h.box k bx (e.trans hk)
      · rw [e2] at hk
        cases hk
        obtain ⟨b, vs, T, h1, h2, h3⟩ := h.box k _ e1
        exact ⟨b, vs, T, h1, h2, e3 _ _ _ _ h3⟩
    dom := fun k hk => by
      rcases hb k with e | ⟨new, z, e1, e2, e3⟩
      · exact h.dom k (e.trans hk)
      · rw [e2] at hk; cases hk
    own := fun k bx b p hk hr hm hp => by
      rcases hb k with e | ⟨new, z, e1, e2, e3⟩
      · exact h.own k bx b p (e.trans hk) hr hm hp
      · exact h.own k _ b p e1 rfl hm hp }
theorem merge_true {X : Nat → Nat → Prop} : ∀ {xs ys zs : List Cell} {us : List Value}, mergeL true xs ys = some zs → CRs m X w xs us → CRs m X w zs us
  | [], [], zs, us, h, hc => by simp only [mergeL, Option.some.injEq] at h; subst h; exact hc
  | x :: xs, y :: ys, zs, [], h, hc => hc.elim
  | x :: xs, y :: ys, zs, u :: us, h, hc => by
    simp only [mergeL] at h
    split at h
    case h_2 => cases h
    rename_i z l hz hl
    simp only [Option.some.injEq] at h
    subst h
    exact ⟨mergeC_ok (u := u) (v := u) hz (fun _ => hc.1) (fun hh => by cases hh), merge_true hl hc.2⟩
  | [], _ :: _, zs, us, h, _ => by simp [mergeL] at h
  | _ :: _, [], zs, us, h, _ => by simp [mergeL] at h
theorem merge_false {X : Nat → Nat → Prop} : ∀ {xs ys zs : List Cell} {us : List Value}, mergeL false xs ys = some zs → CRs m X w ys us → CRs m X w zs us
  | [], [], zs, us, h, hc => by simp only [mergeL, Option.some.injEq] at h; subst h; exact hc
  | x :: xs, y :: ys, zs, [], h, hc => hc.elim
  | x :: xs, y :: ys, zs, u :: us, h, hc => by
    simp only [mergeL] at h
    split at h
    case h_2 => cases h
    rename_i z l hz hl
    simp only [Option.some.injEq] at h
    subst h
    exact ⟨mergeC_ok (u := u) (v := u) hz (fun hh => by cases hh) (fun _ => hc.1), merge_false hl hc.2⟩
  | [], _ :: _, zs, us, h, _ => by simp [mergeL] at h
  | _ :: _, [], zs, us, h, _ => by simp [mergeL] at h
theorem applyB_at {k j : Nat} {b : Option Bx} {r : List (Nat × Option Bx)} {f : Nat → Option Bx} : applyB ((k, b) :: r) f j = if j = k then b else applyB r f j := by
  show cnd (Nat.beq j k) _ _ = _
  by_cases h : j = k
  · rw [cnd_beq_true h, if_pos h]
  · rw [cnd_beq_false h, if_neg h]
theorem mergeBxs_true {st : ASt} : ∀ {l l' : List (Nat × Option Bx)}, mergeBxs true st l = some l' → ∀ k, BxW (applyB l st.box k) (applyB l' st.box k)
  | [], l', h, k => by simp only [mergeBxs, Option.some.injEq] at h; subst h; exact .inl rfl
  | (j, bx) :: r, l', h, k => by
    unfold mergeBxs at h
    split at h
    · rename_i heq; cases heq
    · rename_i j' new r' heq
      cases heq
      split at h
      case h_2 => cases h
      rename_i old l hold hl
      split at h
      case h_2 => cases h
      rename_i z hz
      simp only [Option.some.injEq] at h
      subst h
      rw [applyB_at, applyB_at]
      by_cases hk : k = j
      · rw [if_pos hk, if_pos hk]; exact .inr ⟨_, _, rfl, rfl, fun _ _ _ _ hc => merge_true hz hc⟩
      · rw [if_neg hk, if_neg hk]; exact mergeBxs_true hl k
    · cases h
theorem mergeBxs_false {st : ASt} : ∀ {l l' : List (Nat × Option Bx)}, mergeBxs false st l = some l' → ∀ k, BxW (st.box k) (applyB l' st.box k)
  | [], l', h, k => by simp only [mergeBxs, Option.some.injEq] at h; subst h; exact .inl rfl
  | (j, bx) :: r, l', h, k => by
    unfold mergeBxs at h
    split at h
    · rename_i heq; cases heq
    · rename_i j' new r' heq
      cases heq
      split at h
      case h_2 => cases h
      rename_i old l hold hl
      split at h
      case h_2 => cases h
      rename_i z hz
      simp only [Option.some.injEq] at h
      subst h
      rw [applyB_at]
      by_cases hk : k = j
      · rw [if_pos hk, hk, hold]; exact .inr ⟨_, _, rfl, rfl, fun _ _ _ _ hc => merge_false hz hc⟩
      · rw [if_neg hk]; exact mergeBxs_false hl k
    · cases h
theorem condOf_spec {st : ASt} : ∀ {own : List (Nat × Bool)} {q : Bool}, condOf st own = some q → (∀ d b, (d, b) ∈ own → ∀ g c, st.slot d = some g → g.tv = .v (.one (.bool c)) → ν d = c) → (q = true ↔ holdsTags ν own)
  | [], q, h, _ => by
    simp only [condOf, Option.some.injEq] at h
    subst h
    exact ⟨fun _ x hx => (by cases hx), fun _ => rfl⟩
  | (d, b) :: r, q, h, hy => by
    simp only [condOf] at h
    split at h
    case h_2 => cases h
    rename_i tg c q' hsl hq'
    simp only [Option.some.injEq] at h
    have ih := condOf_spec hq' (fun d b hm => hy d b (by simp [hm]))
    have hd : ν d = c := hy d b (by simp) _ c hsl rfl
    have h1 : bcond b c = true ↔ ν d = b := by rw [hd]; cases b <;> cases c <;> simp [bcond]
    have h2 : q = true ↔ bcond b c = true ∧ q' = true := by
      rw [← h]
      cases r with
      | nil =>
        simp only [condOf, Option.some.injEq] at hq'
        subst hq'
        simp
      | cons x r => simp only [Bool.and_eq_true]
    rw [h2, h1, ih]
    exact ⟨fun hh x hx => by
      rcases List.mem_cons.1 hx with rfl | hx
      · exact hh.1
      · exact hh.2 x hx, fun hh => ⟨hh (d, b) (by simp), fun x hx => hh x (by simp [hx])⟩⟩
theorem gEff_spec {st : ASt} {o : Oper} {e0 e : Eff} (h : gEff st own o e0 = some e) : e.need = e0.need ∧ e.dst = e0.dst ∧ ((e = e0 ∧ (isGuarded o = true → e0.bxs = [])) ∨ ∃ c, condOf st own = some c ∧ mergeBxs c st e0.bxs = some e.bxs) := by
  unfold gEff at h
  split at h
  · rename_i x r hg hb
    split at h
    case h_2 => cases h
    rename_i c hc
    split at h
    case h_2 => cases h
    rename_i l hl
    simp only [Option.some.injEq] at h
    subst h
    exact ⟨rfl, rfl, .inr ⟨c, hc, by rw [hb]; exact hl⟩⟩
  · rename_i hn
    simp only [Option.some.injEq] at h
    subst h
    refine ⟨rfl, rfl, .inl ⟨rfl, fun hg => ?_⟩⟩
    cases hb : e0.bxs with
    | nil => rfl
    | cons x r => exact absurd hb (fun hb => hn x r hg hb)

theorem under_spec {st : ASt} : ∀ {own : List (Nat × Bool)} {p : Prop}, under st own p → (∀ d b, (d, b) ∈ own → ∀ g c, st.slot d = some g → g.tv = .v (.one (.bool c)) → c = b) → p
  | [], p, h, _ => h
  | (d, b) :: r, p, h, hc => by
    simp only [under] at h
    have h1 := under_spec h (fun d b hm => hc d b (by simp [hm]))
    split at h1
    · rename_i tg c hsl
      exact h1 (hc d b (by simp) _ c hsl rfl)
    · exact h1

def needsHold (l : List ER) : Prop := ∀ e ∈ l, ∀ p, e.need = some p → p

theorem dstOk_spec {e : Option (Nat × TV)} {d : Option Nat} (h : dstOk e d = true) : (e = none ∧ d = none) ∨ ∃ k tv, e = some (k, tv) ∧ d = some k := by
  unfold dstOk at h
  split at h
  · rename_i k tv k'; rw [beq_eq h]; exact .inr ⟨_, _, rfl, rfl⟩
  · exact .inl ⟨rfl, rfl⟩
  · cases h

def boolOf : TV → Bool
  | .v (.one (.bool c)) => c | _ => false

theorem apply_slot_none {e : Eff} (h : e.dst = none) (t : Nat) : (e.apply own st).slot t = st.slot t := by unfold Eff.apply; rw [h]

theorem nodup_cons {x : Nat} {r : List Nat} (h : nodup (x :: r) = true) : x ∉ r ∧ nodup r = true := by
  obtain ⟨h1, h2⟩ := andd_true h
  refine ⟨fun hx => ?_, h2⟩
  have h3 := anyB_false (nott_true h1) x hx
  simp at h3

theorem evList_ok (hC : CtxOk P C) (hφ : FrOk C.G φ) (ops : List Oper) (hD : ∀ o ∈ ops, ∀ d, o.dst = some d → d < φ.n ∧ φ.D d = true) :
    ∀ (r : List Oper) (k : Nat) (W : List Nat) (st : ASt) (a : Act) (w : World) (ν : Nat → Bool) (l : List ER),
      evList C ops r W st = some l → ops.drop k = r → nodup (r.filterMap (·.dst)) = true → (∀ d ∈ r.filterMap (·.dst), d ∉ W) → needsHold l → (∃ m, RegM φ ν m W st a w) →
      (∀ a' w' ν' W', (∃ m, RegM φ ν' m W' (applyAll l st) a' w') → Q .normal a' w') →
      wpOps P ops.toArray Q (List.range' k r.length) a w
  | [], k, W, st, a, w, ν, l, h, hk, hnd, hdis, hn, hr, hQ => by
    simp only [evList, Option.some.injEq] at h
    subst h
    exact hQ a w ν W hr
  | o :: r, k, W, st, a, w, ν, l, h, hk, hnd, hdis, hn, ⟨m, hr⟩, hQ => by
    simp only [evList] at h
    split at h
    case h_2 => cases h
    rename_i own hown
    split at h
    case h_2 => cases h
    rename_i e0 he
    split at h
    case h_2 => cases h
    rename_i e hge
    obtain ⟨hdst, h⟩ := cnd_some h
    obtain ⟨hgn, hgd, hgm⟩ := gEff_spec hge
    split at h
    case h_2 => cases h
    rename_i l' hl'
    simp only [Option.some.injEq] at h
    subst h
    have hko : ops[k]? = some o := by
      have : (ops.drop k)[0]? = some o := by rw [hk]; rfl
      simpa using this
    have hk' : ops.drop (k + 1) = r := by
      have : (ops.drop k).drop 1 = r := by rw [hk]; rfl
      rwa [List.drop_drop] at this
    have hoD := hD o (List.mem_of_getElem? hko)
    -- the conditions that it stands under are of slots that are written
    have hownW : ∀ x ∈ own, x.1 ∈ W := by
      intro x hx
      unfold ownOf at hown
      split at hown
      · cases hown; cases hx
      · split at hown
        case h_2 => cases hown
        rename_i d hjd
        split at hown
        case h_2 => cases hown
        rename_i tg c hsl
        obtain ⟨hmem, hown⟩ := cnd_some hown
        simp only [Option.some.injEq] at hown
        subst hown
        rcases List.mem_cons.1 hx with rfl | hx
        · exact mem_spec.1 hmem
        · exact hr.tags d _ hsl x hx
    have hndr : nodup (r.filterMap (·.dst)) = true ∧ ∀ d, o.dst = some d → d ∉ r.filterMap (·.dst) := by
      cases hod : o.dst with
      | none => rw [List.filterMap_cons_none hod] at hnd; exact ⟨hnd, fun d hd => by cases hd⟩
      | some d => rw [List.filterMap_cons_some hod] at hnd; obtain ⟨h1, h2⟩ := nodup_cons hnd; exact ⟨h2, fun d' hd => by cases hd; exact h1⟩
    have hdisr : ∀ d ∈ r.filterMap (·.dst), d ∉ consO o.dst W := by
      intro d hd
      have h1 : d ∉ W := hdis d (by
        cases hod : o.dst with
        | none => rw [List.filterMap_cons_none hod]; exact hd
        | some d' => rw [List.filterMap_cons_some hod]; exact List.mem_cons_of_mem _ hd)
      cases hod : o.dst with
      | none => exact h1
      | some d' =>
        simp only [consO, List.mem_cons, not_or]
        exact ⟨fun e => hndr.2 d' hod (e ▸ hd), h1⟩
    have hoW : ∀ d, o.dst = some d → d ∉ W := fun d hd => hdis d (by rw [List.filterMap_cons_some hd]; simp)
    -- the reading behind the operation
    let ν' : Nat → Bool := match e.dst with | some (d, tv) => fun x => if x = d then boolOf tv else ν x | none => ν
    have hν' : ∀ x, x ∈ W → ν x = ν' x := by
      intro x hx
      show ν x = (match e.dst with | some (d, tv) => fun x => if x = d then boolOf tv else ν x | none => ν) x
      rcases dstOk_spec hdst with ⟨h1, _⟩ | ⟨d, tv, h1, h2⟩
      · rw [h1]
      · rw [h1]
        have : x ≠ d := fun e => hoW d h2 (e ▸ hx)
        simp [this]
    have hsat' : SatM φ ν' m st a w := hr.sat.re fun t g hg x hx => hν' _ (hr.tags t g hg x hx)
    have hyes' : ∀ d, d ∈ W → ∀ g c, st.slot d = some g → g.tv = .v (.one (.bool c)) → ν' d = c := fun d hd g c h1 h2 => (hν' d hd).symm.trans (hr.yes d hd g c h1 h2)
    -- what holds behind it
    have hreg : ∀ m' a' w', SatM φ ν' m' (e.apply own st) a' w' → RegM φ ν' m' (consO o.dst W) (e.apply own st) a' w' := by
      intro m' a' w' hs
      rcases dstOk_spec hdst with ⟨h1, h2⟩ | ⟨d, tv, h1, h2⟩
      · refine ⟨hs, fun t g hg x hx => ?_, fun t ht g c hg hgc => ?_⟩
        · rw [apply_slot_none h1] at hg; rw [h2]; exact hr.tags t g hg x hx
        · rw [apply_slot_none h1] at hg; rw [h2] at ht; exact hyes' t ht g c hg hgc
      · have hsl : ∀ t, (e.apply own st).slot t = if t = d then some ⟨own, tv⟩ else st.slot t := by
          intro t
          obtain ⟨nn, dd, bb⟩ := e
          simp only at h1
          subst h1
          exact apply_slot
        refine ⟨hs, fun t g hg x hx => ?_, fun t ht g c hg hgc => ?_⟩
        · rw [hsl] at hg
          rw [h2]
          by_cases htd : t = d
          · rw [if_pos htd] at hg; cases hg; exact List.mem_cons_of_mem _ (hownW x hx)
          · rw [if_neg htd] at hg; exact List.mem_cons_of_mem _ (hr.tags t g hg x hx)
        · rw [hsl] at hg
          by_cases htd : t = d
          · rw [if_pos htd] at hg
            cases hg
            simp only at hgc
            show (match e.dst with | some (d, tv) => fun x => if x = d then boolOf tv else ν x | none => ν) t = c
            rw [h1, hgc]
            simp [htd, boolOf]
          · rw [if_neg htd] at hg
            rw [h2] at ht
            rcases List.mem_cons.1 ht with h3 | h3
            · exact absurd h3 htd
            · exact hyes' t h3 g c hg hgc
    have hrest : ∀ a' w', Sat φ ν' (e.apply own st) a' w' → wpOps P ops.toArray Q (List.range' (k + 1) r.length) a' w' := fun a' w' ⟨m', hs⟩ =>
      evList_ok hC hφ ops hD r (k + 1) (consO o.dst W) (e.apply own st) a' w' ν' l' hl' hk' hndr.1 hdisr (fun x hx => hn x (List.mem_cons_of_mem _ hx)) ⟨m', hreg m' a' w' hs⟩
        (fun a' w' ν'' W' hh => hQ a' w' ν'' W' hh)
    have hneed : holdsTags ν' own → ∀ p, e.need = some p → p := by
      intro ht p hp
      have h1 : under st own p := hn ⟨own, underO st own e.need, e⟩ (by simp) (under st own p) (by simp [underO, hp])
      refine under_spec h1 fun d b hm g c hg hgc => ?_
      have h2 := hyes' d (hownW _ hm) g c hg hgc
      have h3 := ht _ hm
      simp only at h3
      rw [← h2, h3]
    -- the step
    rw [List.length_cons, List.range'_succ, wpOps_cons]
    unfold wpOp
    have hko' : ops.toArray[k]? = some o := by simpa using hko
    simp only [hko']
    by_cases ht : holdsTags ν' own
    · have hw : Region.wanted o (yielded ops.toArray a.tmps) = true := by
        unfold Region.wanted
        unfold ownOf at hown
        split at hown
        · rename_i hg; simp [hg]
        · rename_i j b hg
          split at hown
          case h_2 => cases hown
          rename_i d hjd
          split at hown
          case h_2 => cases hown
          rename_i tg c hsl
          obtain ⟨hmem, hown⟩ := cnd_some hown
          simp only [Option.some.injEq] at hown
          subst hown
          have hv : a.tmps.getD d undef = .bool c := hsat'.slot d _ hsl (fun x hx => ht x (List.mem_cons_of_mem _ hx))
          have hb : ν' d = b := ht (d, b) (by simp)
          have hcb : ν' d = c := hyes' d (mem_spec.1 hmem) _ c hsl rfl
          have hy : yielded ops.toArray a.tmps j = some c := by
            unfold yielded
            have : (ops.toArray[j]?).bind (·.dst) = some d := by simpa using hjd
            rw [this]
            simp only [Option.bind_some]
            rw [Array.getD_eq_getD_getElem?] at hv
            cases hq : a.tmps[d]? with
            | none => rw [hq] at hv; cases hv
            | some u => rw [hq] at hv; simp only [Option.getD_some] at hv; rw [hv]
          simp only [hg, hy]
          rw [← hcb, hb]
          simp
      rw [if_pos hw]
      have hrest0 : ∀ a' w', Sat φ ν' (e0.apply own st) a' w' → wpOps P ops.toArray Q (List.range' (k + 1) r.length) a' w' := fun a' w' ⟨m', hs⟩ => by
        refine hrest a' w' ⟨m', ?_⟩
        rcases hgm with ⟨e1, _⟩ | ⟨c, hc1, hc2⟩
        · rw [e1]; exact hs
        · have hct : c = true := (condOf_spec hc1 (fun d b hm g c h1 h2 => hyes' d (hownW _ hm) g c h1 h2)).2 ht
          subst hct
          refine hs.weak ?_ (mergeBxs_true hc2)
          unfold Eff.apply
          rw [hgd]
      refine .inl (op_ok (C := C) (φ := φ) (ν := ν') (own := own) (W := W) (st := st) (e := e0) (m := m) ⟨hC, hφ, he, (by rw [← hgn]; exact hneed ht), ht, hyes', hsat', hoD, hrest0⟩)
    · -- it stands under a condition that doesn't hold
      have hg : ∃ j b, o.guard = some (j, b) := by
        cases hgd : o.guard with
        | none => unfold ownOf at hown; rw [hgd] at hown; simp only [Option.some.injEq] at hown; subst hown; exact absurd (fun x hx => by cases hx) ht
        | some x => exact ⟨x.1, x.2, rfl⟩
      obtain ⟨j, b, hg⟩ := hg
      have hbx : ∀ k, BxW (st.box k) (applyB e.bxs st.box k) := by
        rcases hgm with ⟨e1, e2⟩ | ⟨c, hc1, hc2⟩
        · have : e.bxs = [] := by rw [e1]; exact e2 (by unfold isGuarded; rw [hg])
          rw [this]; exact fun _ => .inl rfl
        · have hcf : c = false := by
            cases hcc : c with
            | false => rfl
            | true => exact absurd ((condOf_spec hc1 (fun d b hm g c h1 h2 => hyes' d (hownW _ hm) g c h1 h2)).1 hcc) ht
          subst hcf
          exact mergeBxs_false hc2
      have hw : Region.wanted o (yielded ops.toArray a.tmps) = false := by
        unfold Region.wanted
        unfold ownOf at hown
        rw [hg] at hown
        simp only at hown
        split at hown
        case h_2 => cases hown
        rename_i d hjd
        split at hown
        case h_2 => cases hown
        rename_i tg c hsl
        obtain ⟨hmem, hown⟩ := cnd_some hown
        simp only [Option.some.injEq] at hown
        subst hown
        have hjd' : (ops.toArray[j]?).bind (·.dst) = some d := by simpa using hjd
        simp only [hg]
        by_cases htg : holdsTags ν' tg
        · have hv : a.tmps.getD d undef = .bool c := hsat'.slot d _ hsl htg
          have hcb : ν' d = c := hyes' d (mem_spec.1 hmem) _ c hsl rfl
          have hne : ν' d ≠ b := fun hb => ht fun x hx => by
            rcases List.mem_cons.1 hx with rfl | hx
            · exact hb
            · exact htg x hx
          have hy : yielded ops.toArray a.tmps j = some c := by
            unfold yielded
            rw [hjd']
            simp only [Option.bind_some]
            rw [Array.getD_eq_getD_getElem?] at hv
            cases hq : a.tmps[d]? with
            | none => rw [hq] at hv; cases hv
            | some u => rw [hq] at hv; simp only [Option.getD_some] at hv; rw [hv]
          rw [hy, ← hcb]
          simpa using hne
        · have hv : a.tmps.getD d undef = undef := hsat'.skip d _ hsl htg
          have hy : yielded ops.toArray a.tmps j = none := by
            unfold yielded
            rw [hjd']
            simp only [Option.bind_some]
            rw [Array.getD_eq_getD_getElem?] at hv
            cases hq : a.tmps[d]? with
            | none => rfl
            | some u => rw [hq] at hv; simp only [Option.getD_some] at hv; rw [hv]; rfl
          rw [hy]; rfl
      rw [if_neg (by rw [hw]; simp)]
      rcases dstOk_spec hdst with ⟨h1, h2⟩ | ⟨d, tv, h1, h2⟩
      · rw [h2]
        refine hrest _ _ ⟨m, ?_⟩
        refine hsat'.weak ?_ hbx
        unfold Eff.apply
        rw [h1]
      · rw [h2]
        refine hrest _ _ ⟨m, ?_⟩
        refine (hsat'.skipOp (own := own) (tv := tv) (p := e.need) (hoD d h2).1 (hoD d h2).2 ht).weak ?_ hbx
        unfold Eff.apply
        rw [h1]
end
end Go.Proofs.Ytghlpolodjlgjaa.Sy
