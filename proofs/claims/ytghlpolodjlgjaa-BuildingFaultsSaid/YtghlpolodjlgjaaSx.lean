/- The symbolic evaluator is sound: code and functions (own work). -/
import Derived.Test.YtghlpolodjlgjaaSw
namespace Go.Proofs.Ytghlpolodjlgjaa.Sy
open Go Go.RowKit
set_option linter.unusedVariables false
set_option linter.unusedSimpArgs false

section
variable {φ : Fr} {ν ν' : Nat → Bool} {m : Map} {st : ASt} {a : Act} {w w' : World} {own : List (Nat × Bool)} {W : List Nat} {P : Program} {C : Ctx} {o : Oper} {e : Eff}
  {K : Act → World → Prop} {Q : Exit → Act → World → Prop}

theorem keeps_id (X : Nat → Nat → Prop) (w : World) : Keeps X w w := ⟨Nat.le_refl _, fun _ _ _ _ => rfl, fun _ _ => rfl, fun _ _ _ => rfl⟩

/-! ### Rows that are nobody's any more -/
theorem SatM.frz (h : SatM φ ν m st a w) (k : Nat) : Sat φ ν (frzK k st) a w := by
  have same : toFrz (st.box k) = st.box k → Sat φ ν (frzK k st) a w := by
    intro hs
    have : frzK k st = st := by
      obtain ⟨sl, bx⟩ := st
      unfold frzK
      congr 1
      funext u
      by_cases hu : u = k
      · rw [cnd_beq_true hu, hs, hu]
      · rw [cnd_beq_false hu]
    rw [this]; exact ⟨m, h⟩
  cases hk : st.box k with
  | none => exact same (by rw [hk]; rfl)
  | some bx =>
    cases bx with
    | vec o T t l =>
      have hst : frzK k st = { slot := st.slot, box := fun u => if u = k then some (.frz t l) else st.box u } := by
        unfold frzK
        congr 1
        funext u
        by_cases hu : u = k
        · rw [cnd_beq_true hu, if_pos hu, hk]; rfl
        · rw [cnd_beq_false hu, if_neg hu]
      rw [hst]
      refine h.dead hk (fun m' h1 h2 h3 h4 h5 => ?_) (fun b hb => ?_)
      · obtain ⟨b, p, hm, hv⟩ := h.box k _ hk
        rcases hv with ⟨rfl, rfl⟩ | ⟨rfl, hv⟩ | ⟨_, rfl, hv, _⟩
        · exact ⟨b, 1, h2 b 1 hm rfl, .inl ⟨rfl, rfl⟩⟩
        · refine ⟨b, _, h1 b _ hm (by omega) (by omega), .inr ⟨rfl, hv.rows.ok (fun x vs h => h.mono (keeps_id _ _) h4 _ _ _) fun q _ _ => ?_⟩⟩
          rcases h5 b _ hm (by omega) (by omega) q with h6 | h6
          · exact h6
          · exact absurd (h.own k _ b _ hk rfl hm (by omega)) h6
        · exact ⟨b, _, h2 b _ hm (by omega), .inr ⟨rfl, hv.mono (keeps_id _ _) h4 (TR.mono (keeps_id _ _) h4 t)⟩⟩
      · obtain ⟨b', p, hm, hv⟩ := h.box k _ hk
        rw [hb] at hm
        cases hm
        rcases hv with ⟨_, hv⟩ | ⟨hv, _⟩ | ⟨_, hv, _⟩ <;> omega
    | _ => exact same (by rw [hk]; rfl)

theorem Sat.frzAll : ∀ {ks : List Nat} {st : ASt}, Sat φ ν st a w → Sat φ ν (frzAll ks st) a w
  | [], _, h => h
  | k :: r, st, ⟨m, h⟩ => Sat.frzAll (ks := r) (h.frz k)
theorem frzAll_slot : ∀ {ks : List Nat} {st : ASt}, (frzAll ks st).slot = st.slot
  | [], _ => rfl
  | k :: r, st => by
    show (Sy.frzAll r (frzK k st)).slot = st.slot
    rw [frzAll_slot]; rfl

/-! ### Into a loop -/
/-- The blocks of a state that may be written. -/
def Wr (T : ASt) (m' : Map) (b : Nat) : Prop := ∃ k bx p, T.box k = some bx ∧ bx.isRo = false ∧ m' k = some (b, p) ∧ p % 2 = 0

/-- The frame of a loop: what it may write are the boxes that it is told of, and the slots of its body. -/
def inner (φ : Fr) (m m' : Map) (T : ASt) (body : Code) (a : Act) (w : World) : Fr where
  n := φ.n
  w0 := w
  a0 := a
  B := Wr T m'
  D := fun t => mem t (dsts body)
  X0 := fun b q => XA φ m b q ∧ ¬ Wr T m' b
  n0 := φ.n0
  base := φ.base
  gl := φ.gl

/-- A state that tells of less, in other words: what a loop's head wants. -/
structure View (φ : Fr) (m : Map) (a : Act) (w : World) (m' : Map) (T : ASt) : Prop where
  slot : ∀ t g, T.slot t = some g → g.tags = [] ∧ VR m' (XA φ m) w g.tv (a.tmps.getD t undef)
  box : ∀ k bx, T.box k = some bx → BoxOk m' (XA φ m) w k bx
  dom : ∀ k, T.box k = none → m' k = none
  live : ∀ k b p, m' k = some (b, p) → p % 2 = 0 → ∃ k0, m k0 = some (b, p)
  inj : ∀ k k' b p p', m' k = some (b, p) → m' k' = some (b, p') → p % 2 = 0 → p' % 2 = 0 → k = k'
  own : ∀ k bx b p, T.box k = some bx → bx.isRo = false → m' k = some (b, p) → p % 2 = 0 → φ.B b ∨ φ.w0.heap.size ≤ b

theorem View.sat {m' : Map} {T : ASt} (hv : View φ m a w m' T) (hs : SatM φ ν m st a w) : SatM φ ν0 m' T a w := by
  have hnm : NoMore w (XA φ m) (XA φ m') := by
    rintro b q _ (h | ⟨k, p, h1, h2⟩)
    · exact .inl h
    · obtain ⟨k0, h3⟩ := hv.live _ _ _ h1 h2; exact .inr ⟨k0, p, h3, h2⟩
  exact {
    tmps := hs.tmps
    defers := hs.defers
    slot := fun t g hg _ => (hv.slot t g hg).2.mono (keeps_id _ _) hnm (fun _ _ _ h => h) _ _
    skip := fun t g hg ht => absurd (by rw [(hv.slot t g hg).1]; intro x hx; cases hx) ht
    box := fun k bx hk => (hv.box k bx hk).mle (keeps_id _ _) hnm (MLe.refl _) fun b p h _ => ⟨h, rfl⟩
    inj := hv.inj
    low := fun k b p h he => by obtain ⟨k0, h3⟩ := hv.live _ _ _ h he; exact hs.low _ _ _ h3 he
    dom := hv.dom
    own := hv.own
    vn := fun k b p h he hp => by obtain ⟨k0, h3⟩ := hv.live _ _ _ h he; exact hs.vn _ _ _ h3 he hp
    ngl := fun k b p h he => by obtain ⟨k0, h3⟩ := hv.live _ _ _ h he; exact hs.ngl _ _ _ h3 he
    n0 := hs.n0
    glob := hs.glob
    old := hs.old
    keep := hs.keep
    keepS := hs.keepS
    x0 := hs.x0
    keepT := hs.keepT }

theorem View.XA {m' : Map} {T : ASt} {body : Code} (hv : View φ m a w m' T) : Sy.XA (inner φ m m' T body a w) m' = Sy.XA φ m := by
  funext b q
  refine propext ⟨?_, fun h => ?_⟩
  · rintro (h | ⟨k, p, h1, h2⟩)
    · exact h.1
    · obtain ⟨k0, h3⟩ := hv.live _ _ _ h1 h2; exact .inr ⟨k0, p, h3, h2⟩
  · by_cases hB : Wr T m' b
    · obtain ⟨k, bx, p, h1, h2, h3, h4⟩ := hB; exact .inr ⟨k, p, h3, h4⟩
    · exact .inl ⟨h, hB⟩

theorem View.sub {m' : Map} {T : ASt} (hv : View φ m a w m' T) {b : Nat} (h : Wr T m' b) (q : Nat) : Sy.XA φ m b q := by
  obtain ⟨k, bx, p, h1, h2, h3, h4⟩ := h
  obtain ⟨k0, h5⟩ := hv.live _ _ _ h3 h4
  exact .inr ⟨k0, p, h5, h4⟩

theorem View.into {m' : Map} {T : ASt} {body : Code} (hv : View φ m a w m' T) (hs : SatM φ ν m st a w) : SatM (inner φ m m' T body a w) ν0 m' T a w where
  tmps := hs.tmps
  defers := hs.defers
  slot := fun t g hg _ => by rw [hv.XA]; exact (hv.slot t g hg).2
  skip := fun t g hg ht => absurd (by rw [(hv.slot t g hg).1]; intro x hx; cases hx) ht
  box := fun k bx hk => by rw [hv.XA]; exact hv.box k bx hk
  inj := hv.inj
  low := fun k b p h he => by obtain ⟨k0, h3⟩ := hv.live _ _ _ h he; exact hs.low _ _ _ h3 he
  dom := hv.dom
  own := fun k bx b p h1 h2 h3 h4 => .inl ⟨k, bx, p, h1, h2, h3, h4⟩
  vn := fun k b p h he hp => by obtain ⟨k0, h3⟩ := hv.live _ _ _ h he; exact hs.vn _ _ _ h3 he hp
  ngl := fun k b p h he => by obtain ⟨k0, h3⟩ := hv.live _ _ _ h he; exact hs.ngl _ _ _ h3 he
  n0 := Nat.le_trans hs.n0 hs.old.2.2.2
  glob := hs.glob
  old := ⟨rfl, rfl, rfl, Nat.le_refl _⟩
  keep := fun b _ _ => rfl
  keepS := fun b _ => ⟨rfl, fun _ => rfl⟩
  x0 := fun b q h => ⟨live_lt hs h.1, h.2, XA_gl hs h.1⟩
  keepT := fun t _ => rfl

def restr (m : Map) (ids : List Nat) (vm : Map) : Map := fun k => if k ∈ ids then m k else vm k

theorem chkN_spec {ρ₀ : Type} {s : LS ρ₀} (h : chkN s = true) : nodup (vnames s.vecs) = true ∧ ∀ k ∈ vnames s.vecs, k ∉ firsts s.xb ++ firsts s.kb := by
  obtain ⟨h1, h2⟩ := andd_true h
  refine ⟨h1, fun k hk hin => ?_⟩
  have h3 := nott_true (allB_spec h2 k hk)
  rw [app_eq] at h3
  rw [mem_spec.2 hin] at h3
  cases h3

/-- A state as a loop's head wants it. -/
theorem tmpl_view {ρ₀ : Type} {s : LS ρ₀} (hs : SatM φ ν m st a w) {kc0 kc xc0 xc : List Cell} {kv : s.K.den} {xv : s.X.den}
    (hk : appO (rdS st s.ks) (rdB st s.kb) = some kc0) (hx : appO (rdS st s.xs) (rdW st s.xb) = some xc0) {ds : List Nat} (hc1 : chkP st ds (firsts s.xs) (app (firsts s.xb) (firsts s.kb)) s.ptrs = true) (hN : chkN s = true)
    (hku : unvL true st kc0 = some kc) (hxu : unvX st s.vecs 0 xc0 = some xc) (hnd : nodup (keysX s.vecs 0 xc0) = true) (hkv : dec s.K kc = some kv) (hxv : dec s.X xc = some xv) :
    Fit s.K kv ∧ Fit s.X xv ∧ ∃ m', View φ m a w m' (tmpl s (enc s.K kv) (enc s.X xv)) ∧ (∀ k ∈ firsts s.xb, m' k = m k) ∧
      (∀ k ∈ vnames s.vecs, ∀ b p, m' k = some (b, p) → p % 2 = 0 → ∃ k0 ∈ keysX s.vecs 0 xc0, m k0 = some (b, p) ∧ 0 < p) ∧ (∀ k ∈ firsts s.xb, ∃ ds, st.box k = some (.cells ds)) := by
  have hP := chkP_spec hc1
  obtain ⟨hN1, hN2⟩ := chkN_spec hN
  obtain ⟨kc1, kc2, hk1, hk2, rfl⟩ := appO_spec hk
  obtain ⟨xc1, xc2, hx1, hx2, rfl⟩ := appO_spec hx
  obtain ⟨kvs1, hks1, hkr1⟩ := rdS_ok hs hk1
  obtain ⟨kvs2, hks2, hkr2, hkn⟩ := rdB_ok hs hk2
  obtain ⟨xvs1, hxs1, hxr1⟩ := rdS_ok hs hx1
  obtain ⟨xvs2, hxs2, hxr2, hxn⟩ := rdW_ok hs hx2
  have hX0 : Xc φ m [] = XA φ m := by funext b q; simp [Xc]
  have hkr := unvL_ok hs hku (All2.append hkr1 hkr2) (ks := []) (fun h => by cases h)
  rw [hX0] at hkr
  have hkt := dec_ok hkv hkr
  obtain ⟨henc, hpl⟩ := enc_dec hxv
  obtain ⟨⟨vm, hvm⟩, hxr⟩ := unvX_ok hs hN1 hxu hpl hnd (All2.append hxr1 hxr2)
  have hxt := dec_ok hxv hxr
  let ids := firsts s.xb ++ firsts s.kb
  let m' := restr m ids vm
  have hin : ∀ k, k ∈ ids → m' k = m k := fun k hk => by show (if k ∈ ids then m k else vm k) = _; rw [if_pos hk]
  have hout : ∀ k, k ∉ ids → m' k = vm k := fun k hk => by show (if k ∈ ids then m k else vm k) = _; rw [if_neg hk]
  have hvn : ∀ k, vm k ≠ none → k ∈ vnames s.vecs := fun k hk => by
    cases hq : vm k with
    | none => exact absurd hq hk
    | some r => obtain ⟨j, o, T, _, h⟩ := hvm.from_ k r hq; exact lookV_mem h
  have hvm' : ∀ k, vm k ≠ none → m' k = vm k := fun k hk => hout k (hN2 k (hvn k hk))
  refine ⟨fit_of hkt, fit_of hxt, m', ?_, fun k hk => hin k (List.mem_append.2 (.inl hk)), fun k hk b p h1 h2 => ?_, hxn⟩
  · have hke : CRs m' (XA φ m) w (enc s.K kv) (kvs1 ++ kvs2) := enc_ok hkt
    have hxe : CRs m' (XA φ m) w (vxC s.vecs 0 (enc s.X xv)) (xvs1 ++ xvs2) := by rw [henc]; exact hvm.cells m' hvm'
    have hkb : BoxVals m' w s.kb kvs2 := hks2.re fun k hk => hin k (List.mem_append.2 (.inr hk))
    have hxb : BoxVals m' w s.xb xvs2 := hxs2.re fun k hk => hin k (List.mem_append.2 (.inl hk))
    have hkd : CRs m' (XA φ m) w ((enc s.K kv).drop (shLen s.ks)) (kvs2 ++ []) := by
      have := All2.drop (shLen s.ks) hke
      rw [← hks1.len, List.drop_left] at this
      rw [← hks1.len]
      simpa [CRs] using this
    have hxd : CRs m' (XA φ m) w ((vxC s.vecs 0 (enc s.X xv)).drop (shLen s.xs)) (xvs2 ++ []) := by
      have := All2.drop (shLen s.xs) hxe
      rw [← hxs1.len, List.drop_left] at this
      rw [← hxs1.len]
      simpa [CRs] using this
    have hbox : ∀ k bx, (tmpl s (enc s.K kv) (enc s.X xv)).box k = some bx → (k ∈ ids ∧ ∃ cs', (bx = .cells cs' ∨ bx = .ro cs') ∧ (∃ b us T, m' k = some (b, 0) ∧ w.heap[b]? = some (.cells us T (0, 0)) ∧ CRs m' (XA φ m) w cs' us.toList) ∧
        (bx.isRo = false → k ∈ firsts s.xb)) ∨ (k ∉ ids ∧ vxB s.vecs 0 (enc s.X xv) k = some bx) := by
      intro k bx h
      rcases orE_some h with h | ⟨_, h⟩
      · obtain ⟨cs', h1, h2, _, h4⟩ := boxesOf_ok (ns := []) hxb hxd h
        exact .inl ⟨List.mem_append.2 (.inl h4), cs', .inl h1, h2, fun _ => h4⟩
      · rcases orE_some h with h | ⟨_, h⟩
        · obtain ⟨cs', h1, h2, _, h4⟩ := boxesOf_ok (ns := []) hkb hkd h
          exact .inl ⟨List.mem_append.2 (.inr h4), cs', .inr h1, h2, fun hh => by rw [h1] at hh; cases hh⟩
        · exact .inr ⟨hN2 k (vxB_name h).1, h⟩
    exact {
      slot := by
        intro t g h
        rcases orE_some h with h | ⟨_, h⟩
        · obtain ⟨k, h1, rfl⟩ := ptrsOf_some h
          obtain ⟨h2, h3, h4, h5⟩ := hP t k h1
          have h6 := hs.slot t _ h2 (fun x hx => by cases hx)
          obtain ⟨b, h7, h8⟩ := h6
          rw [app_eq] at h5
          exact ⟨rfl, b, (hin k h5).trans h7, h8⟩
        · rcases orE_some h with h | ⟨_, h⟩
          · obtain ⟨h1, h2, _⟩ := slotsOf_ok (ns := []) hxs1 hxe h; exact ⟨h1, h2⟩
          · obtain ⟨h1, h2, _⟩ := slotsOf_ok (ns := []) hks1 hke h; exact ⟨h1, h2⟩
      box := by
        intro k bx hk
        rcases hbox k bx hk with ⟨_, cs', h1, h2, _⟩ | ⟨h1, h2⟩
        · rcases h1 with rfl | rfl
          · exact h2
          · exact h2
        · rw [henc] at h2
          exact (hvm.box k bx h2).2 m' (hout k h1)
      dom := by
        intro k hk
        by_cases hkin : k ∈ ids
        · exfalso
          rcases List.mem_append.1 hkin with h | h
          · obtain ⟨bx, hb⟩ := boxesOf_some (mk := .cells) (cs := (vxC s.vecs 0 (enc s.X xv)).drop (shLen s.xs)) h
            have : (tmpl s (enc s.K kv) (enc s.X xv)).box k = some bx := by show orE _ _ = _; rw [hb]; rfl
            rw [this] at hk; cases hk
          · obtain ⟨bx, hb⟩ := boxesOf_some (mk := .ro) (cs := (enc s.K kv).drop (shLen s.ks)) h
            have h2 : orE (boxesOf .cells s.xb ((vxC s.vecs 0 (enc s.X xv)).drop (shLen s.xs)) k) (orE (boxesOf .ro s.kb ((enc s.K kv).drop (shLen s.ks)) k) (vxB s.vecs 0 (enc s.X xv) k)) = none := hk
            rw [hb] at h2
            cases hq : boxesOf .cells s.xb ((vxC s.vecs 0 (enc s.X xv)).drop (shLen s.xs)) k with
            | none => rw [hq] at h2; cases h2
            | some y => rw [hq] at h2; cases h2
        · rw [hout k hkin]
          refine hvm.dom k ?_
          rw [← henc]
          cases hq : vxB s.vecs 0 (enc s.X xv) k with
          | none => rfl
          | some bx =>
            have h2 : orE (boxesOf .cells s.xb ((vxC s.vecs 0 (enc s.X xv)).drop (shLen s.xs)) k) (orE (boxesOf .ro s.kb ((enc s.K kv).drop (shLen s.ks)) k) (vxB s.vecs 0 (enc s.X xv) k)) = none := hk
            rw [hq] at h2
            cases hq1 : boxesOf .cells s.xb ((vxC s.vecs 0 (enc s.X xv)).drop (shLen s.xs)) k with
            | some y => rw [hq1] at h2; cases h2
            | none =>
              rw [hq1] at h2
              cases hq2 : boxesOf .ro s.kb ((enc s.K kv).drop (shLen s.ks)) k with
              | some y => rw [hq2] at h2; cases h2
              | none => rw [hq2] at h2; cases h2
      live := by
        intro k b p h1 h2
        by_cases hkin : k ∈ ids
        · exact ⟨k, by rw [← hin k hkin]; exact h1⟩
        · rw [hout k hkin] at h1
          obtain ⟨k0, _, h3, _⟩ := hvm.live k b p h1 h2
          exact ⟨k0, h3⟩
      inj := by
        intro k k' b p p' h1 h2 h3 h4
        by_cases hk : k ∈ ids <;> by_cases hk' : k' ∈ ids
        · rw [hin k hk] at h1; rw [hin k' hk'] at h2; exact hs.inj _ _ _ _ _ h1 h2 h3 h4
        · rw [hin k hk] at h1; rw [hout k' hk'] at h2
          obtain ⟨k0, h5, h6, h7⟩ := hvm.live k' b p' h2 h4
          have := hs.inj _ _ _ _ _ h1 h6 h3 h4
          subst this
          rw [h1] at h6
          cases h6
          rcases List.mem_append.1 hk with h8 | h8
          · obtain ⟨ds', hd⟩ := hxn k h8
            obtain ⟨b2, _, _, h9, _⟩ := hs.box k _ hd
            rw [h1] at h9; cases h9; omega
          · obtain ⟨b2, h9⟩ := hks2.mem h8
            rw [h1] at h9; cases h9; omega
        · rw [hout k hk] at h1; rw [hin k' hk'] at h2
          obtain ⟨k0, h5, h6, h7⟩ := hvm.live k b p h1 h3
          have := hs.inj _ _ _ _ _ h2 h6 h4 h3
          subst this
          rw [h2] at h6
          cases h6
          rcases List.mem_append.1 hk' with h8 | h8
          · obtain ⟨ds', hd⟩ := hxn k' h8
            obtain ⟨b2, _, _, h9, _⟩ := hs.box k' _ hd
            rw [h2] at h9; cases h9; omega
          · obtain ⟨b2, h9⟩ := hks2.mem h8
            rw [h2] at h9; cases h9; omega
        · rw [hout k hk] at h1; rw [hout k' hk'] at h2; exact hvm.inj _ _ _ _ _ h1 h2 h3 h4
      own := by
        intro k bx b p h1 h2 h3 h4
        rcases hbox k bx h1 with ⟨h5, cs', _, _, h6⟩ | ⟨h5, h6⟩
        · obtain ⟨ds', hds⟩ := hxn k (h6 h2)
          rw [hin k h5] at h3
          exact hs.own k _ b p hds rfl h3 h4
        · rw [hout k h5] at h3
          obtain ⟨k0, _, h7, h8⟩ := hvm.live k b p h3 h4
          cases hb0 : st.box k0 with
          | none => rw [hs.dom k0 hb0] at h7; cases h7
          | some bx0 =>
            refine hs.own k0 bx0 b p hb0 ?_ h7 h4
            cases bx0 with
            | ro cs =>
              obtain ⟨b2, _, _, h9, _⟩ := hs.box k0 _ hb0
              rw [h7] at h9; cases h9; omega
            | _ => rfl }
  · rw [hout k (hN2 k hk)] at h1
    obtain ⟨k0, h3, h4, h5⟩ := hvm.live k b p h1 h2
    exact ⟨k0, h3, h4, h5⟩

/-! ### Out of a loop -/
theorem slotsOf_free {ns : List Nat} {t : Nat} {g : GS} : ∀ {l : List (Nat × Option Nat)} {cs : List Cell}, (∀ c ∈ cs, c.free ns = true) → slotsOf l cs t = some g → t ∈ firsts l ∧ g.tags = [] ∧ freeTV ns g.tv
  | [], cs, _, h => by cases h
  | (u, none) :: r, [], hf, h => by
    have := slotsOf_free (ns := ns) (l := r) (cs := []) (fun c hc => by cases hc) h
    exact ⟨by simp [firsts, this.1], this.2⟩
  | (u, none) :: r, c :: cs, hf, h => by
    simp only [slotsOf] at h
    by_cases hut : t = u
    · rw [cnd_beq_true hut] at h; cases h; exact ⟨by simp [firsts, hut], rfl, hf c (by simp)⟩
    · rw [cnd_beq_false hut] at h
      have := slotsOf_free (fun c hc => hf c (by simp [hc])) h
      exact ⟨by simp [firsts, this.1], this.2⟩
  | (u, some n) :: r, cs, hf, h => by
    simp only [slotsOf] at h
    by_cases hut : t = u
    · rw [cnd_beq_true hut] at h; cases h; exact ⟨by simp [firsts, hut], rfl, fun c hc => hf c (List.mem_of_mem_take hc)⟩
    · rw [cnd_beq_false hut] at h
      have := slotsOf_free (cs := cs.drop n) (fun c hc => hf c (List.mem_of_mem_drop hc)) h
      exact ⟨by simp [firsts, this.1], this.2⟩

theorem boxesOf_free {ns : List Nat} {k : Nat} {cs' : List Cell} : ∀ {l : List (Nat × Nat)} {cs : List Cell}, (∀ c ∈ cs, c.free ns = true) → boxesOf .cells l cs k = some (.cells cs') → ∀ c ∈ cs', c.free ns = true
  | [], cs, _, h => by cases h
  | p :: r, cs, hf, h => by
    simp only [boxesOf] at h
    by_cases hut : k = p.1
    · rw [cnd_beq_true hut] at h; cases h; exact fun c hc => hf c (List.mem_of_mem_take hc)
    · rw [cnd_beq_false hut] at h; exact boxesOf_free (cs := cs.drop p.2) (fun c hc => hf c (List.mem_of_mem_drop hc)) h

theorem leave_loop {ρ₀ : Type} {s : LS ρ₀} {body : Code} {m' m'' : Map} {a' : Act} {kc0 : List Cell} {T : ASt} {xc0 : List Cell} (hs : SatM φ ν m st a w) (hpl : Plain st) {y : s.X.den} (hv : View φ m a w m' T)
    (hTw : ∀ k bx, T.box k = some bx → bx.isRo = false → k ∈ firsts s.xb ∨ k ∈ vnames s.vecs) (hxm : ∀ k ∈ firsts s.xb, m' k = m k)
    (hvm : ∀ k ∈ vnames s.vecs, ∀ b p, m' k = some (b, p) → p % 2 = 0 → ∃ k0 ∈ keysX s.vecs 0 xc0, m k0 = some (b, p) ∧ 0 < p) (hxn : ∀ k ∈ firsts s.xb, ∃ ds, st.box k = some (.cells ds))
    (hTx : ∀ k ∈ firsts s.xb, ∃ bx, T.box k = some bx ∧ bx.isRo = false) (hTv : ∀ k ∈ keysX s.vecs 0 xc0, ∀ b p, m k = some (b, p) → 0 < p)
    (hkt : ∀ k ∈ keysX s.vecs 0 xc0, st.box k ≠ none)
    (hc : chkL s st (dsts body) = true) (hN : chkN s = true) (hD : ∀ d ∈ dsts body, φ.D d = true)
    (hi : SatM (inner φ m m' T body a w) ν0 m'' (tmpl s kc0 (enc s.X y)) a' w') :
    Sat φ ν0 (after s (dsts body) (keysX s.vecs 0 xc0) st (enc s.X y)) a' w' ∧ Plain (after s (dsts body) (keysX s.vecs 0 xc0) st (enc s.X y)) := by
  obtain ⟨hc1, hc2⟩ := andd_true hc
  obtain ⟨hc2, hc3⟩ := andd_true hc2
  obtain ⟨hc3, hc4⟩ := andd_true hc3
  have hP := chkP_spec hc1
  obtain ⟨hN1, hN2⟩ := chkN_spec hN
  let ns := vnames s.vecs
  let k0s := keysX s.vecs 0 xc0
  have hfree : ∀ c ∈ vxC s.vecs 0 (enc s.X y), c.free ns = true := vxC_free (fun k hk => hk) (enc_free ns s.X y)
  have hnone : ∀ k ∈ ns, st.box k = none := by
    intro k hk
    have := allB_spec hc4 k hk
    split at this
    · assumption
    · cases this
  have hmn : ∀ k ∈ ns, m k = none := fun k hk => hs.dom k (hnone k hk)
  have hk0n : ∀ k ∈ k0s, k ∉ ns := fun k hk hn => hkt k hk (hnone k hn)
  -- the boxes lie where they lay
  have hm'' : ∀ k ∈ firsts s.xb, m'' k = m k := by
    intro k hk
    obtain ⟨t, ht⟩ := seconds_mem (mem_spec.1 (allB_spec hc2 k hk))
    obtain ⟨h1, h2, h3, h4⟩ := hP t k ht
    obtain ⟨b, h5, h6⟩ := hs.slot t _ h1 (fun x hx => by cases hx)
    obtain ⟨g, hg⟩ := ptrsOf_in ht
    obtain ⟨k', h7, rfl⟩ := ptrsOf_some hg
    have : (tmpl s kc0 (enc s.X y)).slot t = some ⟨[], .v (.one (.box k' 0))⟩ := by show orE _ _ = _; rw [hg]; rfl
    obtain ⟨b', h8, h9⟩ := hi.slot t _ this (fun x hx => by cases hx)
    have h10 := (hP t k' h7).1
    rw [h1] at h10
    cases h10
    have h11 : a'.tmps.getD t undef = a.tmps.getD t undef := hi.keepT t (by
      show mem t (dsts body) = false
      cases hm : mem t (dsts body) with
      | true => exact absurd (mem_spec.1 hm) h2
      | false => rfl)
    rw [h6, h9] at h11
    cases h11
    rw [h5, h8]
  let kill : Nat → Nat := fun p => if p % 2 = 0 then p + 1 else p
  let ma : Map := fun k => if k ∈ ns then m'' k else if k ∈ k0s then (m k).map (fun x => (x.1, kill x.2)) else m k
  have hma1 : ∀ k ∈ ns, ma k = m'' k := fun k hk => by show (if k ∈ ns then _ else _) = _; rw [if_pos hk]
  have hma2 : ∀ k, k ∉ ns → k ∈ k0s → ma k = (m k).map (fun x => (x.1, kill x.2)) := fun k h1 h2 => by show (if k ∈ ns then _ else if k ∈ k0s then _ else _) = _; rw [if_neg h1, if_pos h2]
  have hma3 : ∀ k, k ∉ ns → k ∉ k0s → ma k = m k := fun k h1 h2 => by show (if k ∈ ns then _ else if k ∈ k0s then _ else _) = _; rw [if_neg h1, if_neg h2]
  have hdead : ∀ k, k ∉ ns → k ∈ k0s → ∀ b p, ma k = some (b, p) → p % 2 = 1 := by
    intro k h1 h2 b p h3
    rw [hma2 k h1 h2, Option.map_eq_some_iff] at h3
    obtain ⟨x, _, h4⟩ := h3
    cases h4
    simp only [kill]; split <;> omega
  have hmle : MLe m ma := by
    intro k b p hk
    have h1 : k ∉ ns := fun h => by rw [hmn k h] at hk; cases hk
    by_cases h2 : k ∈ k0s
    · refine ⟨kill p, by rw [hma2 k h1 h2, hk]; rfl, ?_⟩
      have := hTv k h2 b p hk
      simp only [kill]
      split
      · exact .inr ⟨by assumption, this, rfl⟩
      · exact .inl rfl
    · exact ⟨p, by rw [hma3 k h1 h2]; exact hk, .inl rfl⟩
  -- the blocks that the loop may write
  have hWr : ∀ b, Wr T m' b → ∃ k p, m k = some (b, p) ∧ p % 2 = 0 ∧ (k ∈ firsts s.xb ∨ k ∈ k0s) := by
    rintro b ⟨k, bx, p, h1, h2, h3, h4⟩
    rcases hTw k bx h1 h2 with h5 | h5
    · exact ⟨k, p, by rw [← hxm k h5]; exact h3, h4, .inl h5⟩
    · obtain ⟨k0, h6, h7, _⟩ := hvm k h5 b p h3 h4
      exact ⟨k0, p, h7, h4, .inr h6⟩
  have hWown : ∀ b, Wr T m' b → φ.B b ∨ φ.w0.heap.size ≤ b := by
    intro b hb
    obtain ⟨k, bx, p, h1, h2, h3, h4⟩ := hb
    exact hv.own k bx b p h1 h2 h3 h4
  have hnW : ∀ k b p, m k = some (b, p) → p % 2 = 0 → k ∉ firsts s.xb → k ∉ k0s → ¬ Wr T m' b := by
    intro k b p h1 h2 h3 h4 hw
    obtain ⟨k', p', h5, h6, h7⟩ := hWr b hw
    have := hs.inj _ _ _ _ _ h1 h5 h2 h6
    subst this
    exact h7.elim h3 h4
  have hX0 : ∀ b q, φ.X0 b q → ¬ Wr T m' b := by
    intro b q h1 h2
    obtain ⟨h3, h4, _⟩ := hs.x0 _ _ h1
    rcases hWown b h2 with h5 | h5
    · exact h4 h5
    · omega
  have hnm1 : NoMore w' (XA (inner φ m m' T body a w) m'') (XA φ ma) := by
    rintro b q _ (h | ⟨k, p, h1, h2⟩)
    · exact .inl ⟨.inl h, hX0 b q h⟩
    · by_cases hn : k ∈ ns
      · rw [hma1 k hn] at h1; exact .inr ⟨k, p, h1, h2⟩
      · by_cases hk : k ∈ k0s
        · have := hdead k hn hk b p h1; omega
        · rw [hma3 k hn hk] at h1
          by_cases hx : k ∈ firsts s.xb
          · exact .inr ⟨k, p, by rw [hm'' k hx]; exact h1, h2⟩
          · exact .inl ⟨.inr ⟨k, p, h1, h2⟩, hnW k b p h1 h2 hx hk⟩
  have hnm2 : NoMore w (XA φ m) (XA φ ma) := by
    rintro b q hlt (h | ⟨k, p, h1, h2⟩)
    · exact .inl h
    · by_cases hn : k ∈ ns
      · rw [hma1 k hn] at h1
        have hbx : ∃ bx, (tmpl s kc0 (enc s.X y)).box k = some bx := by
          cases hq : (tmpl s kc0 (enc s.X y)).box k with
          | some bx => exact ⟨bx, rfl⟩
          | none => rw [hi.dom k hq] at h1; cases h1
        obtain ⟨bx, hbx⟩ := hbx
        have hro : bx.isRo = false := by
          rcases orE_some hbx with h3 | ⟨_, h3⟩
          · exact absurd (List.mem_append.2 (.inl (boxesOf_mem h3).1)) (hN2 k hn)
          · rcases orE_some h3 with h4 | ⟨_, h4⟩
            · exact absurd (List.mem_append.2 (.inr (boxesOf_mem h4).1)) (hN2 k hn)
            · obtain ⟨_, o, T', t, l, rfl⟩ := vxB_name h4; rfl
        rcases hi.own k bx b p hbx hro h1 h2 with h3 | h3
        · exact hv.sub h3 q
        · have h3 : w.heap.size ≤ b := h3
          omega
      · by_cases hk : k ∈ k0s
        · have := hdead k hn hk b p h1; omega
        · rw [hma3 k hn hk] at h1; exact .inr ⟨k, p, h1, h2⟩
  have hrefl : Keeps (XA (inner φ m m' T body a w) m'') w' w' := keeps_id _ _
  have hkeeps : Keeps (XA φ m) w w' := by
    refine ⟨hi.old.2.2.2, fun b p hb hx => ?_, fun b hb => (hi.keepS b hb).1, fun b p hb => (hi.keepS b hb).2 p⟩
    have := hi.keep b hb (fun hB => hx (hv.sub hB p))
    unfold World.cell?
    simp only
    rw [this]
    rfl
  have hnsm : ∀ k ∈ ns, ma k = m'' k := hma1
  have hslot : ∀ t g, (after s (dsts body) k0s st (enc s.X y)).slot t = some g → g.tags = [] ∧ VR ma (XA φ ma) w' g.tv (a'.tmps.getD t undef) := by
    intro t g hg
    rcases orE_some hg with h | ⟨_, h⟩
    · have hin := slotsOf_free hfree h
      have hnp : ptrsOf s.ptrs t = none := by
        cases hq : ptrsOf s.ptrs t with
        | none => rfl
        | some g' => obtain ⟨k, h1, _⟩ := ptrsOf_some hq; exact absurd hin.1 (hP t k h1).2.2.1
      have : (tmpl s kc0 (enc s.X y)).slot t = some g := by show orE _ _ = _; rw [hnp]; show orE _ _ = _; rw [h]; rfl
      have h2 := hi.slot t g this (by rw [hin.2.1]; intro x hx; cases hx)
      exact ⟨hin.2.1, (VR.free hnsm hin.2.2 h2).mono hrefl hnm1 (fun _ _ _ h => h) _ _⟩
    · by_cases hd : mem t (dsts body) = true
      · rw [hd] at h; cases h
      · have hd' : mem t (dsts body) = false := by cases hm : mem t (dsts body) with | true => exact absurd hm hd | false => rfl
        rw [hd'] at h
        have h : st.slot t = some g := h
        have h2 := hs.slot t g h (by rw [hpl t g h]; intro x hx; cases hx)
        have h3 : a'.tmps.getD t undef = a.tmps.getD t undef := hi.keepT t hd'
        rw [h3]
        exact ⟨hpl t g h, h2.mle hkeeps hnm2 hmle _ _⟩
  have hnameBox : ∀ k bx, k ∈ ns → vxB s.vecs 0 (enc s.X y) k = some bx → (tmpl s kc0 (enc s.X y)).box k = some bx := by
    intro k bx hn h
    show orE _ (orE _ _) = _
    have h1 : boxesOf .cells s.xb ((vxC s.vecs 0 (enc s.X y)).drop (shLen s.xs)) k = none := by
      cases hq : boxesOf .cells s.xb ((vxC s.vecs 0 (enc s.X y)).drop (shLen s.xs)) k with
      | none => rfl
      | some b => exact absurd (List.mem_append.2 (.inl (boxesOf_mem hq).1)) (hN2 k hn)
    have h2 : boxesOf .ro s.kb (kc0.drop (shLen s.ks)) k = none := by
      cases hq : boxesOf .ro s.kb (kc0.drop (shLen s.ks)) k with
      | none => rfl
      | some b => exact absurd (List.mem_append.2 (.inr (boxesOf_mem hq).1)) (hN2 k hn)
    rw [h1, h2, h]; rfl
  have hnameNone : ∀ k, k ∈ ns → vxB s.vecs 0 (enc s.X y) k = none → m'' k = none := by
    intro k hn h
    refine hi.dom k ?_
    show orE _ (orE _ _) = _
    have h1 : boxesOf .cells s.xb ((vxC s.vecs 0 (enc s.X y)).drop (shLen s.xs)) k = none := by
      cases hq : boxesOf .cells s.xb ((vxC s.vecs 0 (enc s.X y)).drop (shLen s.xs)) k with
      | none => rfl
      | some b => exact absurd (List.mem_append.2 (.inl (boxesOf_mem hq).1)) (hN2 k hn)
    have h2 : boxesOf .ro s.kb (kc0.drop (shLen s.ks)) k = none := by
      cases hq : boxesOf .ro s.kb (kc0.drop (shLen s.ks)) k with
      | none => rfl
      | some b => exact absurd (List.mem_append.2 (.inr (boxesOf_mem hq).1)) (hN2 k hn)
    rw [h1, h2, h]; rfl
  have hxbn : ∀ k ∈ firsts s.xb, k ∉ ns := fun k hk hn => hN2 k hn (List.mem_append.2 (.inl hk))
  have hxbk : ∀ k ∈ firsts s.xb, k ∉ k0s := by
    intro k hk hk0
    obtain ⟨ds, hds⟩ := hxn k hk
    obtain ⟨b, _, _, h1, _⟩ := hs.box k _ hds
    have := hTv k hk0 b 0 h1
    omega
  -- who tells of what lives
  have hlive : ∀ k b p, ma k = some (b, p) → p % 2 = 0 → (k ∈ ns ∧ m'' k = some (b, p)) ∨ (k ∉ ns ∧ k ∉ k0s ∧ m k = some (b, p)) := by
    intro k b p h1 h2
    by_cases hn : k ∈ ns
    · exact .inl ⟨hn, by rw [← hma1 k hn]; exact h1⟩
    · by_cases hk : k ∈ k0s
      · have := hdead k hn hk b p h1; omega
      · exact .inr ⟨hn, hk, by rw [← hma3 k hn hk]; exact h1⟩
  have hnOwn : ∀ k b p, k ∈ ns → m'' k = some (b, p) → p % 2 = 0 → Wr T m' b ∨ w.heap.size ≤ b := by
    intro k b p hn h1 h2
    cases hq : vxB s.vecs 0 (enc s.X y) k with
    | none => rw [hnameNone k hn hq] at h1; cases h1
    | some bx =>
      obtain ⟨_, o, T', t, l, rfl⟩ := vxB_name hq
      exact hi.own k _ b p (hnameBox k _ hn hq) rfl h1 h2
  have hcross : ∀ k k' b p p', k ∈ ns → m'' k = some (b, p) → p % 2 = 0 → k' ∉ ns → k' ∉ k0s → m k' = some (b, p') → p' % 2 = 0 → False := by
    intro k k' b p p' h1 h2 h3 h4 h5 h6 h7
    by_cases hx : k' ∈ firsts s.xb
    · have := hi.inj k k' b p p' h2 (by rw [hm'' k' hx]; exact h6) h3 h7
      exact h4 (this ▸ h1)
    · rcases hnOwn k b p h1 h2 h3 with h8 | h8
      · exact hnW k' b p' h6 h7 hx h5 h8
      · have := hs.low _ _ _ h6 h7; omega
  refine ⟨⟨ma, ?_⟩, fun t g hg => (hslot t g hg).1⟩
  exact {
    tmps := hi.tmps
    defers := hi.defers
    slot := fun t g hg _ => (hslot t g hg).2
    skip := fun t g hg ht => absurd (by rw [(hslot t g hg).1]; intro x hx; cases hx) ht
    box := by
      intro k bx hk
      rcases orE_some hk with h | ⟨hn, h⟩
      · obtain ⟨hin, cs', rfl⟩ := boxesOf_mem h
        have hfr := boxesOf_free (fun c hc => hfree c (List.mem_of_mem_drop hc)) h
        have h2 : (tmpl s kc0 (enc s.X y)).box k = some (.cells cs') := by show orE _ _ = _; rw [h]; rfl
        obtain ⟨b, us, T', h3, h4, h5⟩ := hi.box k _ h2
        rw [hm'' k hin] at h3
        exact ⟨b, us, T', by rw [hma3 k (hxbn k hin) (hxbk k hin)]; exact h3, h4, (h5.imp (p := fun c => c.free ns = true) (fun a b hp => CR.free hnsm hp) hfr).mono (CR.mono hrefl hnm1 (fun _ _ _ h => h))⟩
      · have hnot : k ∉ firsts s.xb := fun hin => by obtain ⟨bx', hb⟩ := boxesOf_some (mk := .cells) (cs := (vxC s.vecs 0 (enc s.X y)).drop (shLen s.xs)) hin; rw [hb] at hn; cases hn
        rcases orE_some h with h | ⟨hn2, h⟩
        · obtain ⟨hkn, o, T', t, l, rfl⟩ := vxB_name h
          obtain ⟨b, p, h3, h4⟩ := hi.box k _ (hnameBox k _ hkn h)
          refine ⟨b, p, by rw [hma1 k hkn]; exact h3, ?_⟩
          rcases h4 with h4 | ⟨h4, h5⟩ | ⟨h4, h5, h6, T2, h7⟩
          · exact .inl h4
          · exact .inr (.inl ⟨h4, h5.mono hrefl hnm1 rfl⟩)
          · exact .inr (.inr ⟨h4, h5, h6.mono hrefl hnm1 (TR.mono hrefl hnm1 t), T2, h7⟩)
        · by_cases hk0 : mem k k0s = true
          · rw [hk0] at h
            cases h
            trivial
          · have hk0' : mem k k0s = false := by cases hq : mem k k0s with | true => exact absurd hq hk0 | false => rfl
            rw [hk0'] at h
            have h : st.box k = some bx := h
            have hkk : k ∉ k0s := fun hin => hk0 (mem_spec.2 hin)
            have hkn : k ∉ ns := fun hin => by rw [hnone k hin] at h; cases h
            exact (hs.box k bx h).mle hkeeps hnm2 hmle fun b p h1 h2 => ⟨by rw [hma3 k hkn hkk]; exact h1, hi.keep b (hs.low _ _ _ h1 h2) (hnW k b p h1 h2 hnot hkk)⟩
    inj := by
      intro k k' b p p' h1 h2 h3 h4
      rcases hlive k b p h1 h3 with ⟨h5, h6⟩ | ⟨h5, h5', h6⟩ <;> rcases hlive k' b p' h2 h4 with ⟨h7, h8⟩ | ⟨h7, h7', h8⟩
      · exact hi.inj _ _ _ _ _ h6 h8 h3 h4
      · exact (hcross k k' b p p' h5 h6 h3 h7 h7' h8 h4).elim
      · exact (hcross k' k b p' p h7 h8 h4 h5 h5' h6 h3).elim
      · exact hs.inj _ _ _ _ _ h6 h8 h3 h4
    low := by
      intro k b p h1 h2
      rcases hlive k b p h1 h2 with ⟨h5, h6⟩ | ⟨h5, h5', h6⟩
      · exact hi.low _ _ _ h6 h2
      · exact Nat.lt_of_lt_of_le (hs.low _ _ _ h6 h2) hi.old.2.2.2
    dom := by
      intro k hk
      have h1 : orE (boxesOf .cells s.xb ((vxC s.vecs 0 (enc s.X y)).drop (shLen s.xs)) k) (orE (vxB s.vecs 0 (enc s.X y) k) (cnd (mem k k0s) (some .tok) (st.box k))) = none := hk
      cases hq1 : boxesOf .cells s.xb ((vxC s.vecs 0 (enc s.X y)).drop (shLen s.xs)) k with
      | some x => rw [hq1] at h1; cases h1
      | none =>
        rw [hq1] at h1
        cases hq2 : vxB s.vecs 0 (enc s.X y) k with
        | some x => rw [hq2] at h1; cases h1
        | none =>
          rw [hq2] at h1
          by_cases hn : k ∈ ns
          · rw [hma1 k hn]; exact hnameNone k hn hq2
          · cases hq3 : mem k k0s with
            | true => rw [hq3] at h1; cases h1
            | false =>
              rw [hq3] at h1
              have hkk : k ∉ k0s := fun hin => by rw [mem_spec.2 hin] at hq3; cases hq3
              rw [hma3 k hn hkk]; exact hs.dom k h1
    own := by
      intro k bx b p h1 h2 h3 h4
      rcases hlive k b p h3 h4 with ⟨h5, h6⟩ | ⟨h5, h5', h6⟩
      · rcases hnOwn k b p h5 h6 h4 with h7 | h7
        · exact hWown b h7
        · exact .inr (Nat.le_trans hs.old.2.2.2 h7)
      · rcases orE_some h1 with h | ⟨hn, h⟩
        · obtain ⟨hin, _⟩ := boxesOf_mem h
          obtain ⟨ds, hds⟩ := hxn k hin
          exact hs.own k _ b p hds rfl h6 h4
        · rcases orE_some h with h | ⟨_, h⟩
          · exact absurd (vxB_name h).1 h5
          · cases hq3 : mem k k0s with
            | true => exact absurd (mem_spec.1 hq3) h5'
            | false => rw [hq3] at h; exact hs.own k bx b p h h2 h6 h4
    vn := by
      intro k b p h1 h2 h3
      rcases hlive k b p h1 h2 with ⟨h5, h6⟩ | ⟨h5, h5', h6⟩
      · exact hi.vn _ _ _ h6 h2 h3
      · exact hs.vn _ _ _ h6 h2 h3
    ngl := by
      intro k b p h1 h2
      rcases hlive k b p h1 h2 with ⟨h5, h6⟩ | ⟨h5, h5', h6⟩
      · exact hi.ngl _ _ _ h6 h2
      · exact hs.ngl _ _ _ h6 h2
    n0 := hs.n0
    glob := hi.glob
    old := ⟨hi.old.1.trans hs.old.1, hi.old.2.1.trans hs.old.2.1, hi.old.2.2.1.trans hs.old.2.2.1, Nat.le_trans hs.old.2.2.2 hi.old.2.2.2⟩
    keep := fun b h1 h2 => (hi.keep b (Nat.lt_of_lt_of_le h1 hs.old.2.2.2) (fun hB => by
      rcases hWown b hB with h3 | h3
      · exact h2 h3
      · omega)).trans (hs.keep b h1 h2)
    keepS := fun b h1 => ⟨(hi.keepS b (Nat.lt_of_lt_of_le h1 hs.old.2.2.2)).1.trans (hs.keepS b h1).1, fun p => ((hi.keepS b (Nat.lt_of_lt_of_le h1 hs.old.2.2.2)).2 p).trans ((hs.keepS b h1).2 p)⟩
    x0 := hs.x0
    keepT := fun t ht => by
      have hnd : mem t (dsts body) = false := by
        cases hm : mem t (dsts body) with
        | true => have := hD t (mem_spec.1 hm); rw [ht] at this; cases this
        | false => rfl
      exact (hi.keepT t hnd).trans (hs.keepT t ht) }
end
end Go.Proofs.Ytghlpolodjlgjaa.Sy
