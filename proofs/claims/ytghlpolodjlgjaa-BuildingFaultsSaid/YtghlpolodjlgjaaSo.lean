/- The symbolic evaluator is sound: what single operations do (own work). -/
import Derived.Test.YtghlpolodjlgjaaSe
import Derived.Laws.CopyRow
import Derived.Laws.Entries
import Derived.Laws.Cover2
namespace Go.Proofs.Ytghlpolodjlgjaa.Sy
open Go Go.RowKit
set_option linter.unusedVariables false
set_option linter.unusedSimpArgs false

/-! ### Plain words -/
theorem cnd_some {α : Type} {b : Bool} {x : Option α} {y : α} (h : cnd b x none = some y) : b = true ∧ x = some y := by cases b <;> simp_all [cnd]
theorem andd_true {a b : Bool} (h : andd a b = true) : a = true ∧ b = true := by cases a <;> simp_all [andd]
theorem orr_true {x y : Bool} (h : orr x y = true) : x = true ∨ y = true := by cases x <;> simp_all [orr]
theorem nott_true {a : Bool} (h : nott a = true) : a = false := by cases a <;> simp_all [nott]
theorem allB_spec {α : Type} {p : α → Bool} : ∀ {l : List α}, allB p l = true → ∀ x ∈ l, p x = true
  | [], _, _, h => by cases h
  | a :: l, h, x, hx => by
    simp only [allB] at h
    split at h
    · rcases List.mem_cons.1 hx with rfl | hx
      · assumption
      · exact allB_spec h x hx
    · cases h
theorem anyB_spec {α : Type} {p : α → Bool} : ∀ {l : List α}, anyB p l = true → ∃ x ∈ l, p x = true
  | [], h => by cases h
  | a :: l, h => by
    simp only [anyB] at h
    split at h
    · exact ⟨a, by simp, by assumption⟩
    · obtain ⟨x, hx, hp⟩ := anyB_spec h; exact ⟨x, by simp [hx], hp⟩
theorem anyB_false {α : Type} {p : α → Bool} : ∀ {l : List α}, anyB p l = false → ∀ x ∈ l, p x = false
  | [], _, _, h => by cases h
  | a :: l, h, x, hx => by
    simp only [anyB] at h
    split at h
    · cases h
    · rcases List.mem_cons.1 hx with rfl | hx
      · assumption
      · exact anyB_false h x hx
theorem mem_spec {t : Nat} {l : List Nat} : mem t l = true ↔ t ∈ l := by
  constructor
  · intro h; obtain ⟨x, hx, hp⟩ := anyB_spec h; rw [Nat.eq_of_beq_eq_true hp]; exact hx
  · intro h
    cases hm : mem t l with
    | true => rfl
    | false => have := anyB_false hm t h; simp at this
theorem len'_eq (l : List Cell) : len' l = l.length := by induction l <;> simp [len', *]
theorem beq_eq {a b : Nat} (h : Nat.beq a b = true) : a = b := Nat.eq_of_beq_eq_true h
theorem cnd_beq_true {α : Type} {a b : Nat} {x y : α} (h : a = b) : cnd (Nat.beq a b) x y = x := by subst h; simp [cnd]
theorem cnd_beq_false {α : Type} {a b : Nat} {x y : α} (h : a ≠ b) : cnd (Nat.beq a b) x y = y := by
  have : Nat.beq a b = false := by cases hh : Nat.beq a b with | true => exact absurd (beq_eq hh) h | false => rfl
  rw [this]; rfl

theorem sub_spec {xs own : List (Nat × Bool)} {ν : Nat → Bool} (h : sub xs own = true) (ho : holdsTags ν own) : holdsTags ν xs := by
  intro x hx
  obtain ⟨y, hy, hp⟩ := anyB_spec (allB_spec h x hx)
  obtain ⟨h1, h2⟩ := andd_true hp
  rw [beq_eq h1, ho y hy]
  revert h2; cases x.2 <;> cases y.2 <;> simp

/-! ### Worlds -/
theorem keeps_of_below {X : Nat → Nat → Prop} {w w' : World} (h : Below w.heap.size w w') : Keeps X w w' :=
  ⟨h.size, fun b p hb _ => by unfold World.cell?; rw [h.block b hb], fun b hb => by unfold World.shape?; rw [h.block b hb], fun b p hb => by unfold World.frozen?; rw [h.block b hb]⟩

theorem noMore_refl {w : World} {X : Nat → Nat → Prop} : NoMore w X X := fun _ _ _ h => h

section
variable {φ : Fr} {ν : Nat → Bool} {m : Map} {st : ASt} {a : Act} {w w' : World} {own : List (Nat × Bool)}

/-- The boxes may be others, in another world. -/
theorem SatM.change (h : SatM φ ν m st a w) {m' : Map} {box' : Nat → Option Bx} (hk : Keeps (XA φ m) w w') (hm : MLe m m') (hX : NoMore w (XA φ m) (XA φ m'))
    (hbox : ∀ k bx, box' k = some bx → BoxOk m' (XA φ m') w' k bx)
    (inj : ∀ k k' b p p', m' k = some (b, p) → m' k' = some (b, p') → p % 2 = 0 → p' % 2 = 0 → k = k')
    (low : ∀ k b p, m' k = some (b, p) → p % 2 = 0 → b < w'.heap.size)
    (dom : ∀ k, box' k = none → m' k = none)
    (own : ∀ k bx b p, box' k = some bx → bx.isRo = false → m' k = some (b, p) → p % 2 = 0 → φ.B b ∨ φ.w0.heap.size ≤ b)
    (vn : ∀ k b p, m' k = some (b, p) → p % 2 = 0 → 0 < p → φ.n0 ≤ b)
    (ngl : ∀ k b p, m' k = some (b, p) → p % 2 = 0 → ¬ φ.gl b)
    (glob : GK φ.gl w w') (hw : w'.os = w.os ∧ w'.tape = w.tape ∧ w'.output = w.output)
    (keep : ∀ b, b < φ.w0.heap.size → ¬ φ.B b → w'.heap[b]? = w.heap[b]?) : SatM φ ν m' { slot := st.slot, box := box' } a w' where
  tmps := h.tmps
  defers := h.defers
  slot t g hg ht := (h.slot t g hg ht).mle hk hX hm _ _
  skip := h.skip
  x0 := h.x0
  box := hbox
  inj := inj
  low := low
  dom := dom
  own := own
  vn := vn
  ngl := ngl
  n0 := h.n0
  glob := h.glob.trans glob
  old := ⟨hw.1.trans h.old.1, hw.2.1.trans h.old.2.1, hw.2.2.trans h.old.2.2.1, Nat.le_trans h.old.2.2.2 hk.size⟩
  keep b h1 h2 := (keep b h1 h2).trans (h.keep b h1 h2)
  keepS b h1 := by
    have hlt := Nat.lt_of_lt_of_le h1 h.old.2.2.2
    exact ⟨(hk.shape b hlt).trans (h.keepS b h1).1, fun p => (hk.frozen b p hlt).trans ((h.keepS b h1).2 p)⟩
  keepT := h.keepT

theorem SatM.glt (h : SatM φ ν m st a w) : ∀ b, φ.gl b → b < w.heap.size := fun b hb => Nat.lt_of_lt_of_le (h.glob.block b hb).1 h.glob.size

theorem SatM.gk_below (h : SatM φ ν m st a w) (hb : Below w.heap.size w w') : GK φ.gl w w' :=
  ⟨hb.os, hb.tape, hb.size, fun b hg => ⟨h.glt b hg, hb.block b (h.glt b hg)⟩⟩

/-- The world may grow. -/
theorem SatM.ext (h : SatM φ ν m st a w) (hb : Below w.heap.size w w') : SatM φ ν m st a w' :=
  h.change (box' := st.box) (keeps_of_below hb) (MLe.refl m) noMore_refl
    (fun k bx hk => (h.box k bx hk).mle (keeps_of_below hb) noMore_refl (MLe.refl m) fun b p h1 h2 => ⟨h1, hb.block b (h.low _ _ _ h1 h2)⟩)
    h.inj (fun k b p hk he => Nat.lt_of_lt_of_le (h.low k b p hk he) hb.size) h.dom h.own h.vn h.ngl (h.gk_below hb) ⟨hb.os, hb.tape, hb.output⟩
    (fun b h1 _ => hb.block b (Nat.lt_of_lt_of_le h1 h.old.2.2.2))

theorem getD_set_same {xs : Array Value} {d : Nat} {v : Value} (h : d < xs.size) : (xs.setIfInBounds d v).getD d undef = v := by
  simp [Array.getD, h]
theorem getD_set_ne {xs : Array Value} {d t : Nat} {v : Value} (h : t ≠ d) : (xs.setIfInBounds d v).getD t undef = xs.getD t undef := by
  simp only [Array.getD_eq_getD_getElem?, Array.getElem?_setIfInBounds_ne (Ne.symm h)]

/-- A slot is written. -/
theorem SatM.put (h : SatM φ ν m st a w) {d : Nat} {tv : TV} {v : Value} (hd : d < φ.n) (hD : φ.D d = true) (hown : holdsTags ν own) (hv : VR m (XA φ m) w tv v) :
    SatM φ ν m ((Eff.mk none (some (d, tv)) []).apply own st) (a.put (some d) v) w where
  tmps := by simp [Act.put, h.tmps]
  defers := h.defers
  slot t g hg ht := by
    show VR m (XA φ m) w g.tv _
    simp only [Eff.apply] at hg
    by_cases htd : t = d
    · rw [cnd_beq_true htd] at hg
      simp only [Option.some.injEq] at hg
      subst hg htd
      simp only [Act.put]
      rw [getD_set_same (by rw [h.tmps]; exact hd)]
      exact hv
    · rw [cnd_beq_false htd] at hg
      simp only [Act.put]
      rw [getD_set_ne htd]
      exact h.slot t g hg ht
  skip t g hg ht := by
    simp only [Eff.apply] at hg
    by_cases htd : t = d
    · rw [cnd_beq_true htd] at hg
      simp only [Option.some.injEq] at hg
      subst hg
      exact absurd hown ht
    · rw [cnd_beq_false htd] at hg
      simp only [Act.put]
      rw [getD_set_ne htd]
      exact h.skip t g hg ht
  x0 := h.x0
  box k bx hk := h.box k bx hk
  inj := h.inj
  dom := h.dom
  low := h.low
  own := h.own
  vn := h.vn
  ngl := h.ngl
  n0 := h.n0
  glob := h.glob
  old := h.old
  keep := h.keep
  keepS := h.keepS
  keepT t ht := by
    have : t ≠ d := fun e => by rw [e, hD] at ht; cases ht
    simp only [Act.put]
    rw [getD_set_ne this]
    exact h.keepT t ht

theorem apply_put {tv : TV} {p : Option Prop} {d : Nat} {bxs : List (Nat × Option Bx)} :
    (Eff.mk p (some (d, tv)) bxs).apply own st = (Eff.mk none (some (d, tv)) []).apply own { slot := st.slot, box := applyB bxs st.box } := rfl

theorem live_lt (h : SatM φ ν m st a w) {b q : Nat} (hx : XA φ m b q) : b < w.heap.size := by
  rcases hx with hx | ⟨k, p, h1, h2⟩
  · exact Nat.lt_of_lt_of_le (h.x0 _ _ hx).1 h.old.2.2.2
  · exact h.low _ _ _ h1 h2

/-- A name that is new, for a block behind all others. T: the world with that block. -/
theorem SatM.newKey (h : SatM φ ν m st a w) {d b p : Nat} {bx : Bx} (hnone : st.box d = none) (hb : Below w.heap.size w w') (hblk : p % 2 = 0 → w.heap.size ≤ b) (hlt : p % 2 = 0 → b < w'.heap.size)
    (hbx : ∀ m', m' d = some (b, p) → MLe m m' → NoMore w (XA φ m) (XA φ m') → (∀ b' q, XA φ m' b' q → XA φ m b' q ∨ p % 2 = 0) → BoxOk m' (XA φ m') w' d bx) :
    SatM φ ν (fun k => if k = d then some (b, p) else m k) { slot := st.slot, box := fun k => if k = d then some bx else st.box k } a w' := by
  let m' : Map := fun k => if k = d then some (b, p) else m k
  have hmd : m d = none := h.dom d hnone
  have hm' : ∀ k, k ≠ d → m' k = m k := fun k hk => by simp [m', hk]
  have hmd' : m' d = some (b, p) := by simp [m']
  have hmm : MLe m m' := MLe.of fun k b p hk => by
    have : k ≠ d := fun e => by rw [e, hmd] at hk; cases hk
    rw [hm' k this, hk]
  have hX : NoMore w (XA φ m) (XA φ m') := by
    intro b' q hl hxx
    rcases hxx with hxx | ⟨k, p0, h2, h3⟩
    · exact .inl hxx
    by_cases hk : k = d
    · rw [hk, hmd'] at h2; simp at h2; have := hblk (by omega); omega
    · exact .inr ⟨k, p0, by rw [← hm' k hk]; exact h2, h3⟩
  have hbn := hbx m' hmd' hmm hX (fun b' q hxx => by
    rcases hxx with hxx | ⟨k, p0, h2, h3⟩
    · exact .inl (.inl hxx)
    by_cases hk : k = d
    · rw [hk, hmd'] at h2; simp at h2; exact .inr (by omega)
    · exact .inl (.inr ⟨k, p0, by rw [← hm' k hk]; exact h2, h3⟩))
  refine h.change (keeps_of_below hb) hmm hX ?_ ?_ ?_ ?_ ?_ ?_ ?_ (h.gk_below hb) ⟨hb.os, hb.tape, hb.output⟩ (fun b h1 _ => hb.block b (Nat.lt_of_lt_of_le h1 h.old.2.2.2))
  · intro k bx' hk
    by_cases hkd : k = d
    · subst hkd; simp only [if_true, Option.some.injEq] at hk; subst hk; exact hbn
    · simp only [if_neg hkd] at hk
      exact (h.box k bx' hk).mle (keeps_of_below hb) hX hmm fun b p h1 h2 => ⟨(hm' k hkd).trans h1, hb.block b (h.low _ _ _ h1 h2)⟩
  · intro k k' b' q q' h1 h2 h3 h4
    by_cases hk : k = d <;> by_cases hk2 : k' = d
    · rw [hk, hk2]
    · rw [hk] at h1; rw [show (if d = d then some (b, p) else m d) = m' d from rfl, hmd'] at h1; simp only [if_neg hk2] at h2; have := h.low _ _ _ h2 h4; simp at h1; have := hblk (by omega); omega
    · rw [hk2] at h2; rw [show (if d = d then some (b, p) else m d) = m' d from rfl, hmd'] at h2; simp only [if_neg hk] at h1; have := h.low _ _ _ h1 h3; simp at h2; have := hblk (by omega); omega
    · simp only [if_neg hk] at h1; simp only [if_neg hk2] at h2; exact h.inj _ _ _ _ _ h1 h2 h3 h4
  · intro k b' q h1 h2
    by_cases hk : k = d
    · simp only [if_pos hk, Option.some.injEq, Prod.mk.injEq] at h1; have := hlt (by omega); omega
    · simp only [if_neg hk] at h1; have := h.low _ _ _ h1 h2; have := hb.size; omega
  · intro k hk
    by_cases hkd : k = d
    · simp only [if_pos hkd] at hk; cases hk
    · simp only [if_neg hkd] at hk ⊢; exact h.dom k hk
  · intro k bx' b' q h1 h2 h3 h4
    by_cases hkd : k = d
    · simp only [if_pos hkd, Option.some.injEq, Prod.mk.injEq] at h3; exact .inr (by have := h.old.2.2.2; have := hblk (by omega); omega)
    · simp only [if_neg hkd] at h1 h3; exact h.own k bx' b' q h1 h2 h3 h4
  · intro k b' q h1 h2 h3
    by_cases hkd : k = d
    · simp only [if_pos hkd, Option.some.injEq, Prod.mk.injEq] at h1; have := h.old.2.2.2; have := h.n0; have := hblk (by omega); omega
    · simp only [if_neg hkd] at h1; exact h.vn k b' q h1 h2 h3
  · intro k b' q h1 h2 hg
    by_cases hkd : k = d
    · simp only [if_pos hkd, Option.some.injEq, Prod.mk.injEq] at h1; have := h.glt b' hg; have := hblk (by omega); omega
    · simp only [if_neg hkd] at h1; exact h.ngl k b' q h1 h2 hg

theorem applyB_one {d : Nat} {bx : Bx} {f : Nat → Option Bx} : applyB [(d, some bx)] f = fun k => if k = d then some bx else f k := by
  funext k
  show cnd (Nat.beq k d) _ _ = _
  by_cases hk : k = d
  · rw [cnd_beq_true hk, if_pos hk]
  · rw [cnd_beq_false hk, if_neg hk]; rfl

/-- A new box: the block behind all others. -/
theorem SatM.newBox (h : SatM φ ν m st a w) {d : Nat} {cs : List Cell} {vs : Array Value} {T : TypeId} (hd : d < φ.n) (hD : φ.D d = true) (hnone : st.box d = none)
    (hcs : CRs m (XA φ m) w cs vs.toList) (hown : holdsTags ν own) :
    Sat φ ν ((Eff.mk none (some (d, .v (.one (.box d 0)))) [(d, some (.cells cs))]).apply own st) (a.put (some d) (.pointer (some ⟨w.heap.size, 0, none⟩))) (w.alloc (.cells vs T)) := by
  have hb : Below w.heap.size w (w.alloc (.cells vs T)) := (Below.refl _ _).alloc (Nat.le_refl _) _
  have hnew : (w.alloc (.cells vs T)).heap[w.heap.size]? = some (.cells vs T) := by unfold World.alloc; simp only [Array.getElem?_push_size]
  have h1 := h.newKey (b := w.heap.size) (p := 0) (bx := .cells cs) hnone hb (fun _ => Nat.le_refl _) (fun _ => by simp) (fun m' h2 h3 h4 _ => ⟨_, vs, T, h2, hnew, hcs.mono (CR.mle (keeps_of_below hb) h4 h3)⟩)
  refine ⟨fun k => if k = d then some (w.heap.size, 0) else m k, ?_⟩
  rw [apply_put, applyB_one]
  exact h1.put hd hD hown ⟨w.heap.size, by simp, rfl⟩

/-- A block that is a box's is written. -/
theorem SatM.write (h : SatM φ ν m st a w) {k b p : Nat} {bx bx0 : Bx} {vs vs' : Array Value} {T : TypeId} {z : Nat × Nat} (hk : st.box k = some bx0) (hro : bx0.isRo = false) (hm : m k = some (b, p)) (he : p % 2 = 0)
    (hw : w.heap[b]? = some (.cells vs T z)) (hsize : vs'.size = vs.size)
    (hbx : Keeps (XA φ m) w (w.setRow b vs') → (w.setRow b vs').heap[b]? = some (.cells vs' T z) → BoxOk m (XA φ m) (w.setRow b vs') k bx) (hro' : bx.isRo = false) (own : List (Nat × Bool)) :
    SatM φ ν m ((Eff.mk none none [(k, some bx)]).apply own st) a (w.setRow b vs') := by
  have hX : ∀ q, XA φ m b q := fun q => .inr ⟨k, p, hm, he⟩
  have hkeep : Keeps (XA φ m) w (w.setRow b vs') := by
    refine ⟨by simp, fun b' p hb' hx => ?_, fun b' hb' => ?_, fun b' p hb' => ?_⟩
    · have : b' ≠ b := fun e => hx (e ▸ hX p)
      unfold World.cell?; rw [setRow_other _ _ _ _ this]
    · by_cases e : b' = b
      · subst e; unfold World.shape?; rw [setRow_heap _ _ _ _ _ _ hw, hw]; simp [hsize]
      · unfold World.shape?; rw [setRow_other _ _ _ _ e]
    · by_cases e : b' = b
      · subst e; unfold World.frozen?; simp only []; rw [setRow_heap _ _ _ _ _ _ hw, hw]
      · unfold World.frozen?; simp only []; rw [setRow_other _ _ _ _ e]
  have hblt : b < w.heap.size := h.low _ _ _ hm he
  have hother : ∀ j b' q, j ≠ k → m j = some (b', q) → q % 2 = 0 → b' ≠ b := fun j b' q hj h1 h2 e => hj (h.inj _ _ _ _ _ (e ▸ h1) hm h2 he)
  show SatM φ ν m { slot := st.slot, box := applyB [(k, some bx)] st.box } a (w.setRow b vs')
  rw [applyB_one]
  refine h.change hkeep (MLe.refl m) noMore_refl ?_ h.inj (fun j b' q h1 h2 => by rw [setRow_size]; exact h.low _ _ _ h1 h2) ?_ ?_ h.vn h.ngl ?_ ⟨rfl, rfl, rfl⟩ ?_
  · intro j bx' hj
    by_cases hjk : j = k
    · subst hjk; simp only [if_true, Option.some.injEq] at hj; subst hj; exact hbx hkeep (setRow_heap _ _ _ _ _ _ hw)
    · simp only [if_neg hjk] at hj
      exact (h.box j bx' hj).mle hkeep noMore_refl (MLe.refl m) fun b' q h1 h2 => ⟨h1, setRow_other _ _ _ _ (hother j b' q hjk h1 h2)⟩
  · intro j hj
    by_cases hjk : j = k
    · simp only [if_pos hjk] at hj; cases hj
    · simp only [if_neg hjk] at hj; exact h.dom j hj
  · intro j bx' b' q h1 h2 h3 h4
    by_cases hjk : j = k
    · exact h.own k bx0 b' q hk hro (hjk ▸ h3) h4
    · simp only [if_neg hjk] at h1; exact h.own j bx' b' q h1 h2 h3 h4
  · exact ⟨rfl, rfl, by simp, fun b' hb' => ⟨h.glt b' hb', setRow_other _ _ _ _ (fun e => h.ngl _ _ _ hm he (e ▸ hb'))⟩⟩
  · intro b' h1 h2
    have : b' ≠ b := fun e => by
      rcases h.own k bx0 b p hk hro hm he with h3 | h3
      · exact h2 (e ▸ h3)
      · omega
    exact setRow_other _ _ _ _ this

/-- A box is written. -/
theorem SatM.store (h : SatM φ ν m st a w) {k b : Nat} {cs cs' : List Cell} {vs vs' : Array Value} {T : TypeId} (hk : st.box k = some (.cells cs)) (hm : m k = some (b, 0))
    (hw : w.heap[b]? = some (.cells vs T (0, 0))) (hsize : vs'.size = vs.size) (hcs : CRs m (XA φ m) w cs' vs'.toList) (own : List (Nat × Bool)) :
    SatM φ ν m ((Eff.mk none none [(k, some (.cells cs'))]).apply own st) a (w.setRow b vs') :=
  h.write (bx := .cells cs') hk rfl hm rfl hw hsize (fun h1 h2 => ⟨b, vs', T, hm, h2, hcs.mono (CR.mono h1 noMore_refl (fun _ _ _ h => h))⟩) rfl own

/-- A row under another name: the block may be written as well. -/
theorem SatM.moveKey (h : SatM φ ν m st a w) {d k b p pd : Nat} {bx bx0 : Bx} (hnone : st.box d = none) (hk : st.box k = some bx0) (hro : bx0.isRo = false) (hm : m k = some (b, p)) (hp : 0 < p)
    (hkeep : Keeps (XA φ m) w w') (hblk : ∀ b', (p % 2 = 0 → b' ≠ b) → w'.heap[b']? = w.heap[b']?) (hsz : w'.heap.size = w.heap.size) (hw : w'.os = w.os ∧ w'.tape = w.tape ∧ w'.output = w.output) (hpd : pd % 2 = p % 2) (hpd0 : 0 < pd)
    (hbx : ∀ m', m' d = some (b, pd) → MLe m m' → NoMore w (XA φ m) (XA φ m') → BoxOk m' (XA φ m') w' d bx) :
    ∃ m', m' d = some (b, pd) ∧ SatM φ ν m' { slot := st.slot, box := fun u => if u = d then some bx else if u = k then some .tok else st.box u } a w' := by
  have hdk : d ≠ k := fun e => by rw [e, hk] at hnone; cases hnone
  let kill : Nat → Nat := fun p => if p % 2 = 0 then p + 1 else p
  let m' : Map := fun j => if j = d then some (b, pd) else if j = k then some (b, kill p) else m j
  have hmd : m d = none := h.dom d hnone
  have hmd' : m' d = some (b, pd) := by simp [m']
  have hmk' : m' k = some (b, kill p) := by simp [m', Ne.symm hdk]
  have hmo : ∀ j, j ≠ d → j ≠ k → m' j = m j := fun j h1 h2 => by simp [m', h1, h2]
  have hodd : kill p % 2 = 1 := by simp only [kill]; split <;> omega
  have hmle : MLe m m' := by
    intro j b' q hj
    by_cases hjd : j = d
    · rw [hjd, hmd] at hj; cases hj
    · by_cases hjk : j = k
      · subst hjk
        rw [hm] at hj; cases hj
        refine ⟨kill p, hmk', ?_⟩
        simp only [kill]
        split
        · exact .inr ⟨by assumption, hp, rfl⟩
        · exact .inl rfl
      · exact ⟨q, by rw [hmo j hjd hjk]; exact hj, .inl rfl⟩
  have hX : NoMore w (XA φ m) (XA φ m') := by
    rintro b' q _ (h1 | ⟨j, p', h1, h2⟩)
    · exact .inl h1
    · by_cases hjd : j = d
      · rw [hjd, hmd'] at h1; cases h1; exact .inr ⟨k, p, hm, by omega⟩
      · by_cases hjk : j = k
        · rw [hjk, hmk'] at h1; cases h1; omega
        · exact .inr ⟨j, p', by rw [← hmo j hjd hjk]; exact h1, h2⟩
  have hlive : ∀ j b' q, m' j = some (b', q) → q % 2 = 0 → ∃ j' q', m j' = some (b', q') ∧ q' % 2 = 0 ∧ (0 < q → 0 < q') ∧ ((j = d ∧ j' = k) ∨ (j ≠ d ∧ j ≠ k ∧ j' = j)) := by
    intro j b' q h1 h2
    by_cases hjd : j = d
    · rw [hjd, hmd'] at h1; cases h1; exact ⟨k, p, hm, by omega, fun _ => hp, .inl ⟨hjd, rfl⟩⟩
    · by_cases hjk : j = k
      · rw [hjk, hmk'] at h1; cases h1; omega
      · exact ⟨j, q, by rw [← hmo j hjd hjk]; exact h1, h2, id, .inr ⟨hjd, hjk, rfl⟩⟩
  refine ⟨m', hmd', ?_⟩
  refine h.change hkeep hmle hX ?_ ?_ ?_ ?_ ?_ ?_ ?_ ⟨hw.1, hw.2.1, by omega, fun b' hb' => ⟨h.glt b' hb', hblk b' (fun he e => h.ngl _ _ _ hm he (e ▸ hb'))⟩⟩ hw ?_
  · intro j bx' hj
    by_cases hjd : j = d
    · subst hjd; simp only [if_true, Option.some.injEq] at hj; subst hj; exact hbx m' hmd' hmle hX
    · by_cases hjk : j = k
      · simp only [if_neg hjd, if_pos hjk, Option.some.injEq] at hj; subst hj; trivial
      · simp only [if_neg hjd, if_neg hjk] at hj
        exact (h.box j bx' hj).mle hkeep hX hmle fun b' q h1 h2 => ⟨(hmo j hjd hjk).trans h1, hblk b' (fun he e => hjk (h.inj _ _ _ _ _ (e ▸ h1) hm h2 he))⟩
  · intro j j' b' q q' h1 h2 h3 h4
    obtain ⟨i, r, h5, h6, _, h7⟩ := hlive _ _ _ h1 h3
    obtain ⟨i', r', h8, h9, _, h10⟩ := hlive _ _ _ h2 h4
    have := h.inj _ _ _ _ _ h5 h8 h6 h9
    rcases h7 with ⟨h7, h7'⟩ | ⟨h7, h7', h7''⟩ <;> rcases h10 with ⟨h10, h10'⟩ | ⟨h10, h10', h10''⟩ <;> omega
  · intro j b' q h1 h2
    obtain ⟨i, r, h5, h6, _, _⟩ := hlive _ _ _ h1 h2
    rw [hsz]; exact h.low _ _ _ h5 h6
  · intro j hj
    by_cases hjd : j = d
    · simp only [if_pos hjd] at hj; cases hj
    · by_cases hjk : j = k
      · simp only [if_neg hjd, if_pos hjk] at hj; cases hj
      · simp only [if_neg hjd, if_neg hjk] at hj; rw [hmo j hjd hjk]; exact h.dom j hj
  · intro j bx' b' q h1 h2 h3 h4
    obtain ⟨i, r, h5, h6, _, h7⟩ := hlive _ _ _ h3 h4
    rcases h7 with ⟨h7, rfl⟩ | ⟨h7, h7', rfl⟩
    · exact h.own _ _ _ _ hk hro h5 h6
    · simp only [if_neg h7, if_neg h7'] at h1; exact h.own _ _ _ _ h1 h2 h5 h6
  · intro j b' q h1 h2 h3
    obtain ⟨i, r, h5, h6, h8, _⟩ := hlive _ _ _ h1 h2
    exact h.vn _ _ _ h5 h6 (h8 h3)
  · intro j b' q h1 h2
    obtain ⟨i, r, h5, h6, _, _⟩ := hlive _ _ _ h1 h2
    exact h.ngl _ _ _ h5 h6
  · intro b' h1 h2
    exact hblk b' fun he e => by
      rcases h.own _ _ _ _ hk hro hm he with h3 | h3
      · exact h2 (e ▸ h3)
      · omega

/-- A row is nobody's any more. -/
theorem SatM.dead (h : SatM φ ν m st a w) {k : Nat} {bx bx0 : Bx} (hk : st.box k = some bx0)
    (hbx : ∀ m', (∀ b p, m k = some (b, p) → p % 2 = 0 → 0 < p → m' k = some (b, p + 1)) → (∀ b p, m k = some (b, p) → p % 2 = 1 → m' k = some (b, p)) → MLe m m' → NoMore w (XA φ m) (XA φ m') →
      (∀ b p, m k = some (b, p) → p % 2 = 0 → 0 < p → ∀ q, ¬ XA φ m' b q ∨ ¬ (φ.B b ∨ φ.w0.heap.size ≤ b)) → BoxOk m' (XA φ m') w k bx)
    (hp : ∀ b, m k ≠ some (b, 0)) : Sat φ ν { slot := st.slot, box := fun u => if u = k then some bx else st.box u } a w := by
  let kill : Nat → Nat := fun p => if p % 2 = 0 then p + 1 else p
  let m' : Map := fun j => if j = k then (m k).map (fun x => (x.1, kill x.2)) else m j
  have hm' : ∀ j, j ≠ k → m' j = m j := fun j hj => by simp [m', hj]
  have hmk : ∀ b p, m k = some (b, p) → m' k = some (b, kill p) := fun b p h => by simp [m', h]
  have hmk2 : ∀ b p, m' k = some (b, p) → ∃ p0, m k = some (b, p0) ∧ p = kill p0 := by
    intro b p h1
    simp only [m', if_true, Option.map_eq_some_iff] at h1
    obtain ⟨x, h2, h3⟩ := h1
    obtain ⟨b0, p0⟩ := x
    simp only [Prod.mk.injEq] at h3
    exact ⟨p0, by rw [h2, h3.1], h3.2.symm⟩
  have hodd : ∀ b p, m' k = some (b, p) → p % 2 = 1 := by
    intro b p h1
    obtain ⟨p0, h2, rfl⟩ := hmk2 b p h1
    have h3 : p0 ≠ 0 := fun e => hp b (e ▸ h2)
    simp only [kill]
    split <;> omega
  have hmle : MLe m m' := by
    intro j b p hj
    by_cases hjk : j = k
    · subst hjk
      refine ⟨kill p, hmk _ _ hj, ?_⟩
      have h3 : p ≠ 0 := fun e => hp b (e ▸ hj)
      simp only [kill]
      split
      · exact .inr ⟨by assumption, by omega, by omega⟩
      · exact .inl rfl
    · exact ⟨p, by rw [hm' j hjk]; exact hj, .inl rfl⟩
  have hX : NoMore w (XA φ m) (XA φ m') := by
    rintro b q _ (h1 | ⟨j, p, h1, h2⟩)
    · exact .inl h1
    · by_cases hjk : j = k
      · subst hjk; have := hodd _ _ h1; omega
      · exact .inr ⟨j, p, by rw [← hm' j hjk]; exact h1, h2⟩
  refine ⟨m', ?_⟩
  have hkp : Keeps (XA φ m) w w := ⟨Nat.le_refl _, fun _ _ _ _ => rfl, fun _ _ => rfl, fun _ _ _ => rfl⟩
  refine h.change hkp hmle hX ?_ ?_ ?_ ?_ ?_ ?_ ?_ (GK.refl h.glt) ⟨rfl, rfl, rfl⟩ (fun _ _ _ => rfl)
  · intro j bx' hj
    by_cases hjk : j = k
    · subst hjk
      simp only [if_true, Option.some.injEq] at hj
      subst hj
      refine hbx m' (fun b p h1 h2 h3 => ?_) (fun b p h1 h2 => ?_) hmle hX (fun b p h1 h2 h3 q => ?_)
      · rw [hmk _ _ h1]; simp [kill, h2]
      · rw [hmk _ _ h1]; simp [kill, h2]
      · by_cases hx : XA φ m' b q
        · rcases hx with hx | ⟨j', p', h4, h5⟩
          · right
            intro h6
            have := h.x0 _ _ hx
            rcases h6 with h6 | h6
            · exact this.2.1 h6
            · omega
          · exfalso
            by_cases hjk' : j' = j
            · subst hjk'; have := hodd _ _ h4; omega
            · rw [hm' j' hjk'] at h4
              exact hjk' (h.inj _ _ _ _ _ h4 h1 h5 h2)
        · exact .inl hx
    · simp only [if_neg hjk] at hj
      exact (h.box j bx' hj).mle hkp hX hmle fun b' q h1 h2 => ⟨(hm' j hjk).trans h1, rfl⟩
  · intro j j' b p p' h1 h2 h3 h4
    have ha : j ≠ k := fun e => by have := hodd b p (e ▸ h1); omega
    have hb : j' ≠ k := fun e => by have := hodd b p' (e ▸ h2); omega
    rw [hm' _ ha] at h1; rw [hm' _ hb] at h2
    exact h.inj _ _ _ _ _ h1 h2 h3 h4
  · intro j b p h1 h2
    have ha : j ≠ k := fun e => by have := hodd b p (e ▸ h1); omega
    rw [hm' _ ha] at h1; exact h.low _ _ _ h1 h2
  · intro j hj
    by_cases hjk : j = k
    · simp only [if_pos hjk] at hj; cases hj
    · simp only [if_neg hjk] at hj; rw [hm' j hjk]; exact h.dom j hj
  · intro j bx' b p h1 h2 h3 h4
    have ha : j ≠ k := fun e => by have := hodd b p (e ▸ h3); omega
    rw [hm' _ ha] at h3; simp only [if_neg ha] at h1; exact h.own _ _ _ _ h1 h2 h3 h4
  · intro j b p h1 h2 h3
    have ha : j ≠ k := fun e => by have := hodd b p (e ▸ h1); omega
    rw [hm' _ ha] at h1; exact h.vn _ _ _ h1 h2 h3
  · intro j b p h1 h2
    have ha : j ≠ k := fun e => by have := hodd b p (e ▸ h1); omega
    rw [hm' _ ha] at h1; exact h.ngl _ _ _ h1 h2
end
end Go.Proofs.Ytghlpolodjlgjaa.Sy
