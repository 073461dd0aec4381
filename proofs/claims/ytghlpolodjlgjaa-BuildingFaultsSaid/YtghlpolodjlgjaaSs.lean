/- The symbolic evaluator is sound: single operations, third part (own work). -/
import Derived.Test.YtghlpolodjlgjaaSr
namespace Go.Proofs.Ytghlpolodjlgjaa.Sy
open Go Go.RowKit
set_option linter.unusedVariables false
set_option linter.unusedSimpArgs false

section
variable {φ : Fr} {ν : Nat → Bool} {m : Map} {st : ASt} {a : Act} {w w' : World} {own : List (Nat × Bool)} {W : List Nat} {P : Program} {C : Ctx} {o : Oper} {e : Eff}
  {K : Act → World → Prop} {Q : Exit → Act → World → Prop}

theorem ok_unOp {op : UnOp} {t : TypeId} {x : Operand} (hop : o.op = .unOp op t x) (h : At P C φ ν own W st o e m a w K) : o.wp P a w K Q := by
  have he := h.ev
  simp only [evOp, hop] at he
  split at he
  · rename_i b hx
    have hc : a.eval x = .bool b := opndc_ok h.sat h.tags hx
    exact h.out0 he (v := .bool !b) (by simp [execOp, hop, hc, Op.unary]) rfl
  · rename_i k n hx
    have hc : a.eval x = .int k n := opndc_ok h.sat h.tags hx
    exact h.out0 he (v := .int k (k.wrap (0 - n))) (by simp [execOp, hop, hc, Op.unary, Op.intArith]) rfl
  · cases he

theorem tyOf_spec {t : TypeId} {ty : Ty} (h : tyOf C t = some ty) : ∃ d, C.D t = some d ∧ d.ty = ty := by
  unfold tyOf at h
  rw [Option.map_eq_some_iff] at h
  exact h

theorem field?_spec (hC : CtxOk P C) {t : TypeId} {f : Nat} {fd : Nat × Nat} (hfd : field? C t f = some fd) :
    ∃ fds f', P.underlying t = some (.struct fds) ∧ fds[f]? = some f' ∧ f'.offset = fd.2 ∧ f'.type = fd.1 := by
  unfold field? at hfd
  split at hfd
  case h_2 => cases hfd
  rename_i d hD
  split at hfd
  case h_2 => cases hfd
  rename_i fs hk
  obtain ⟨de, hde, hkd, _⟩ := (hC.D t d hD).desc
  unfold kindOk at hkd
  rw [hk] at hkd
  obtain ⟨_, fds, rfl, hmap, _⟩ := hkd
  rw [← hmap, List.getElem?_map, Array.getElem?_toList] at hfd
  rw [Option.map_eq_some_iff] at hfd
  obtain ⟨f', hf', rfl⟩ := hfd
  exact ⟨fds, f', hde, hf', rfl, rfl⟩

theorem run_fieldPlace {b off : Nat} {f' : Field} {ty : Ty} {ag : Bool} (h : InfoOk P f'.type ty ag) (hn : 1 ≤ ty.n) : (fieldPlace ⟨b, off, none⟩ f').run P w = .ok ⟨b, off + f'.offset, none⟩ w := by
  unfold fieldPlace
  rw [Sem.run_bind, run_sizeOf h, Result.andThen_ok, if_neg (by omega), add_none]
  rfl

theorem ok_fieldAddr {t : TypeId} {x : Operand} {f : Nat} (hop : o.op = .fieldAddr t x f) (h : At P C φ ν own W st o e m a w K) : o.wp P a w K Q := by
  have he := h.ev
  simp only [evOp, hop] at he
  split at he
  · rename_i k off fd hx hfd
    obtain ⟨fds, f', h1, h2, h3, h4⟩ := field?_spec h.ctx hfd
    split at he
    case h_2 => cases he
    rename_i d hD
    obtain ⟨hn, he2⟩ := cnd_some he
    have hi := (h.ctx.D _ d hD).info
    rw [← h4] at hi
    obtain ⟨b, hm, hu⟩ := opndc_ok h.sat h.tags hx
    refine h.out0 he2 (v := .pointer (some ⟨b, off + fd.2, none⟩)) ?_ ⟨b, hm, rfl⟩
    simp only [execOp, hop, hu, Instr.fieldAt, Sem.run_bind, run_underlying h1, Result.andThen_ok, h2, Instr.sureAddr, Sem.run_pure, run_fieldPlace hi (Nat.le_of_ble_eq_true hn), h3]
  · rename_i ty l i off fd hx hfd
    obtain ⟨fds, f', h1, h2, h3, h4⟩ := field?_spec h.ctx hfd
    split at he
    case h_2 => cases he
    rename_i d hD
    obtain ⟨hn, he2⟩ := cnd_some he
    have hi := (h.ctx.D _ d hD).info
    rw [← h4] at hi
    obtain ⟨b, o', hu, hm⟩ := opndc_ok h.sat h.tags hx
    refine h.out0 he2 (v := .pointer (some ⟨b, o' + (i.toNat * ty.n + (off + fd.2)), none⟩)) ?_ ⟨b, o', rfl, hm⟩
    simp only [execOp, hop, hu, Instr.fieldAt, Sem.run_bind, run_underlying h1, Result.andThen_ok, h2, Instr.sureAddr, Sem.run_pure, run_fieldPlace hi (Nat.le_of_ble_eq_true hn), h3]
    rw [show o' + (i.toNat * ty.n + off) + fd.2 = o' + (i.toNat * ty.n + (off + fd.2)) by omega]
  · rename_i ty k i off fd hx hfd
    obtain ⟨fds, f', h1, h2, h3, h4⟩ := field?_spec h.ctx hfd
    split at he
    case h_2 => cases he
    rename_i d hD
    obtain ⟨hn, he2⟩ := cnd_some he
    have hi := (h.ctx.D _ d hD).info
    rw [← h4] at hi
    obtain ⟨b, p, hm, hp, hu, hlt⟩ := opndc_ok h.sat h.tags hx
    refine h.out0 he2 (v := .pointer (some ⟨b, i.toNat * ty.n + (off + fd.2), none⟩)) ?_ ⟨b, p, hm, hp, rfl, hlt⟩
    simp only [execOp, hop, hu, Instr.fieldAt, Sem.run_bind, run_underlying h1, Result.andThen_ok, h2, Instr.sureAddr, Sem.run_pure, run_fieldPlace hi (Nat.le_of_ble_eq_true hn), h3]
    rw [show i.toNat * ty.n + off + fd.2 = i.toNat * ty.n + (off + fd.2) by omega]
  · cases he

/-- A part of cells, as the model takes it. -/
theorem run_part {t : TypeId} {d : TD} (hT : TDOk P t d) {us : Array Value} {off : Nat} (hle : off + d.ty.n ≤ us.size) :
    (part t us off).run P w = .ok (mkV d.agg ((us.toList.drop off).take d.ty.n)) w := by
  unfold part
  rw [Sem.run_bind, hT.isAgg, Result.andThen_ok]
  cases hd : d.agg with
  | true =>
    simp only [if_true, Sem.run_bind, run_sizeOf hT.info, Result.andThen_ok, Sem.run_pure, mkV]
    congr 2
    apply Array.ext'
    simp [Array.toList_extract, List.drop_take, List.extract_eq_take_drop]
  | false =>
    have h1 := hT.one hd
    rw [h1] at hle ⊢
    simp only [Bool.false_eq_true, if_false, mkV]
    rw [Array.getElem?_eq_getElem (by omega)]
    simp only [Sem.run_pure]
    congr 1
    rw [List.take_one]
    simp [List.head?_drop, Array.getElem?_eq_getElem (show off < us.size by omega)]

theorem ok_field {t : TypeId} {x : Operand} {f : Nat} (hop : o.op = .field t x f) (h : At P C φ ν own W st o e m a w K) : o.wp P a w K Q := by
  have he := h.ev
  simp only [evOp, hop] at he
  split at he
  case h_2 => cases he
  rename_i cs fd hx hfd
  obtain ⟨fds, f', h1, h2, h3, h4⟩ := field?_spec h.ctx hfd
  split at he
  case h_2 => cases he
  rename_i d hD
  split at he
  case h_2 => cases he
  rename_i v hv
  obtain ⟨hle, he2⟩ := cnd_some he
  have hle : fd.2 + d.ty.n ≤ cs.length := by have := Nat.le_of_ble_eq_true hle; rwa [len'_eq] at this
  obtain ⟨us, hu, hus⟩ := opnd1_ok h.sat h.tags hx
  have hlen := hus.length
  have hT := h.ctx.D _ d hD
  rw [← h4] at hT
  refine h.out0 he2 (v := mkV d.agg ((us.toList.drop fd.2).take d.ty.n)) ?_ (mkSV_ok hv (All2.take _ (All2.drop _ hus)))
  simp only [execOp, hop, hu, Instr.field, Sem.run_bind, run_underlying h1, Result.andThen_ok, h2, asAgg, Sem.run_pure, h3]
  rw [run_part hT (by simpa using (hlen ▸ hle : fd.2 + d.ty.n ≤ us.toList.length))]
  rfl

theorem ok_extract {x : Operand} {i : Nat} (hop : o.op = .extract x i) (h : At P C φ ν own W st o e m a w K) : o.wp P a w K Q := by
  have he := h.ev
  simp only [evOp, hop] at he
  split at he
  case h_2 => cases he
  rename_i xs hx
  split at he
  case h_2 => cases he
  rename_i v hv
  obtain ⟨vs, hu, hall⟩ := opnd_ok h.sat h.tags hx
  obtain ⟨u, hu2, hr⟩ := hall.get i v hv
  refine h.out0 he (v := u) ?_ hr
  rw [Array.getElem?_toList] at hu2
  simp [execOp, hop, hu, Instr.extract, hu2]

theorem plainTy_spec (hC : CtxOk P C) {t : TypeId} {ty : Ty} (h : plainTy C t = some ty) : ∃ de, P.underlying t = some de ∧ plainOk ty de := by
  unfold plainTy at h
  split at h
  case h_2 => cases h
  rename_i d hD
  cases hd : d.agg with
  | true => rw [hd] at h; cases h
  | false =>
    rw [hd] at h
    simp only [cnd, Option.some.injEq] at h
    subst h
    obtain ⟨de, h1, _, h2⟩ := (hC.D t d hD).desc
    exact ⟨de, h1, h2 hd⟩

theorem At.hw (h : At P C φ ν own W st o e m a w K) : C.G.H w := C.G.mono (h.fr.gl ▸ h.sat.glob) h.fr.wok
theorem XA_gl (hs : SatM φ ν m st a w) {b q : Nat} (h : XA φ m b q) : ¬ φ.gl b := by
  rcases h with h | ⟨k, p, h1, h2⟩
  · exact (hs.x0 _ _ h).2.2
  · exact hs.ngl _ _ _ h1 h2

theorem lenN_eq {α : Type} (l : List α) : lenN l = l.length := by induction l <;> simp [lenN, *]

/-- A row that is told of: where it lies. -/
theorem vref_at (hs : SatM φ ν m st a w) {e0 : Ty} {k : Nat} {v : Value} (hv : CR m (XA φ m) w (.vref e0 k) v) {n : Nat} (hn : ∀ b p, m k = some (b, p) → vlen p = n) (h0 : 0 < n) :
    ∃ b p cap T, m k = some (b, p) ∧ 0 < p ∧ v = .slice (some ⟨b, 0, none⟩) n cap ∧ w.shape? b = some (T, cap * e0.n) ∧ n ≤ cap ∧ cap ≤ maxLen := by
  obtain ⟨b, p, h1, h2, h3⟩ := hv
  have h4 := hn b p h1
  rcases h3 with ⟨h5, _⟩ | ⟨_, cap, T, h5, h6, h7, h8⟩
  · subst h5; simp [vlen] at h4; omega
  · exact ⟨b, p, cap, T, h1, h2, by rw [← h4]; exact h5, h6, by omega, h8⟩

theorem vec_len (hs : SatM φ ν m st a w) {k : Nat} {ow : Bool} {T : TypeId} {e : Ty} {l : List e.den} (hb : st.box k = some (.vec ow T e l)) : ∀ b p, m k = some (b, p) → vlen p = l.length := by
  intro b p hm
  obtain ⟨b', p', h1, h2⟩ := hs.box k _ hb
  rw [hm] at h1
  cases h1
  rcases h2 with ⟨h2, h3⟩ | ⟨h2, h3⟩ | ⟨_, h2, _⟩
  · rw [h3, h2]; rfl
  · rw [h2, vlen_live]
  · rw [h2, vlen_dead]
theorem frz_len (hs : SatM φ ν m st a w) {k : Nat} {e : Ty} {l : List e.den} (hb : st.box k = some (.frz e l)) : ∀ b p, m k = some (b, p) → vlen p = l.length := by
  intro b p hm
  obtain ⟨b', p', h1, h2⟩ := hs.box k _ hb
  rw [hm] at h1
  cases h1
  rcases h2 with ⟨h2, h3⟩ | ⟨h2, h3⟩
  · rw [h3, h2]; rfl
  · rw [h2, vlen_dead]

theorem ok_indexGlobal {t : TypeId} {g : Nat} {i : Operand} (hop : o.op = .indexAddr t (.global g) i) (h : At P C φ ν own W st o e m a w K) : o.wp P a w K Q := by
  have he := h.ev
  simp only [evOp, hop] at he
  split at he
  case h_2 => cases he
  rename_i d ety l k2 n hD hgv hi
  split at he
  case h_2 => cases he
  rename_i len el hk
  split at he
  case h_2 => cases he
  rename_i de hDe
  obtain ⟨h1, h2⟩ := cnd_some he
  obtain ⟨h1, h1'⟩ := andd_true h1
  have h1 := beq_eq h1
  have h1' := beq_eq h1'
  rw [lenN_eq] at h1'
  have hin := h.need' h2
  have hi' : a.eval i = .int k2 n := opndc_ok h.sat h.tags hi
  obtain ⟨e0, hde, hkd, _⟩ := (h.ctx.D t d hD).desc
  unfold kindOk at hkd
  rw [hk] at hkd
  obtain ⟨_, rfl⟩ := hkd
  obtain ⟨b, hb, hgl⟩ := h.ctx.gv g ety l hgv
  obtain ⟨hu, hrows⟩ := hgl a w (XA φ m) h.hw (fun b q hX => h.fr.gl ▸ XA_gl h.sat hX)
  refine h.out0 h2 (v := .pointer (some ⟨b, 0 + (n.toNat * ety.n + 0), none⟩)) ?_ ⟨b, 0, rfl, by omega, hrows⟩
  simp only [execOp, hop, hu, hi', Instr.indexAt, Sem.run_bind, run_underlying hde, Result.andThen_ok, asIntOf, Sem.run_pure, Instr.sureAddr]
  rw [if_pos hin]
  simp only [Sem.run_bind, run_sizeOf (h.ctx.D el de hDe).info, Result.andThen_ok, Sem.run_pure, add_none, ← h1, Nat.add_zero, Nat.zero_add]

theorem ok_indexAddr {t : TypeId} {x i : Operand} (hop : o.op = .indexAddr t x i) (h : At P C φ ν own W st o e m a w K) : o.wp P a w K Q := by
  by_cases hxg : ∃ g, x = .global g
  · obtain ⟨g, rfl⟩ := hxg
    exact ok_indexGlobal hop h
  have he := h.ev
  have hxg : ∀ g, x = .global g → False := fun g hg => hxg ⟨g, hg⟩
  simp only [evOp, hop] at he
  split at he
  · rename_i d ety tl l k n hD hx hi
    split at he
    case h_2 => cases he
    rename_i el ety' hk hty
    obtain ⟨h1, h2⟩ := cnd_some he
    have h1 := beq_eq h1
    have hin := h.need' h2
    have hi' : a.eval i = .int k n := opndc_ok h.sat h.tags hi
    obtain ⟨hl, _⟩ := opndc_ok h.sat h.tags hx
    obtain ⟨de, hde, hkd, _⟩ := (h.ctx.D t d hD).desc
    unfold kindOk at hkd
    rw [hk] at hkd
    obtain ⟨_, rfl, t', ag, hty', hinfo⟩ := hkd
    rw [hty] at hty'
    cases hty'
    rcases hl with ⟨h0, _⟩ | ⟨ad, cap, hu, hcap, _, hsp, hrows⟩
    · rw [h0] at hin; simp at hin; omega
    · have hne : l ≠ [] := by intro h0; rw [h0] at hin; simp at hin; omega
      obtain ⟨b, o', sp⟩ := ad
      have hsp := hsp hne
      simp only at hsp
      subst hsp
      refine h.out0 h2 (v := .pointer (some ⟨b, o' + (n.toNat * ety.n + 0), none⟩)) ?_ ⟨b, o', rfl, by omega, hrows⟩
      simp only [execOp, hop, hu, hi', Instr.indexAt, Sem.run_bind, run_underlying hde, Result.andThen_ok, asIntOf, Sem.run_pure]
      rw [if_pos hin]
      simp only [Sem.run_bind, run_sizeOf hinfo, Result.andThen_ok, Sem.run_pure, add_none, ← h1, Nat.add_zero]
  · rename_i d k off k' n hD hx hi
    have hi0 := opndc_ok h.sat h.tags hi
    split at he
    case h_3 => cases he
    case h_2 =>
      rename_i len el hk hno
      split at he
      case h_2 => cases he
      rename_i de hDe
      obtain ⟨h1, h2⟩ := cnd_some he
      obtain ⟨b, hm, hu⟩ := opndc_ok h.sat h.tags hx
      obtain ⟨e0, hde, hkd, _⟩ := (h.ctx.D t d hD).desc
      unfold kindOk at hkd
      rw [hk] at hkd
      obtain ⟨_, rfl⟩ := hkd
      have hin := h.need' h2
      refine h.out0 h2 (v := .pointer (some ⟨b, off + n.toNat * de.ty.n, none⟩)) ?_ ⟨b, hm, rfl, hin.1, by omega⟩
      simp only [CR] at hi0
      simp only [execOp, hop, hu, hi0, Instr.indexAt, Sem.run_bind, run_underlying hde, Result.andThen_ok, asIntOf, Sem.run_pure, Instr.sureAddr]
      rw [if_pos hin]
      simp only [Sem.run_bind, run_sizeOf (h.ctx.D el de hDe).info, Result.andThen_ok, Sem.run_pure, add_none]
    rename_i len el k2 n' hk
    split at he
    case h_2 => cases he
    rename_i de hDe
    obtain ⟨h1, h2⟩ := cnd_some he
    have h1 : n' + 1 ≤ len := Nat.le_of_ble_eq_true h1
    obtain ⟨b, hm, hu⟩ := opndc_ok h.sat h.tags hx
    obtain ⟨e0, hde, hkd, _⟩ := (h.ctx.D t d hD).desc
    unfold kindOk at hkd
    rw [hk] at hkd
    obtain ⟨_, rfl⟩ := hkd
    refine h.out0 h2 (v := .pointer (some ⟨b, off + n' * de.ty.n, none⟩)) ?_ ⟨b, hm, rfl⟩
    have hin : (0 : Int) ≤ Int.ofNat n' ∧ Int.ofNat n' < (len : Int) := ⟨Int.natCast_nonneg _, by simp; omega⟩
    have hi2 : a.eval (.const (.int k2 (Int.ofNat n'))) = .int k2 (Int.ofNat n') := rfl
    simp only [execOp, hop, hu, hi2, Instr.indexAt, Sem.run_bind, run_underlying hde, Result.andThen_ok, asIntOf, Sem.run_pure, Instr.sureAddr]
    rw [if_pos hin]
    simp only [Sem.run_bind, run_sizeOf (h.ctx.D el de hDe).info, Result.andThen_ok, Sem.run_pure, add_none, Int.toNat_natCast, Int.ofNat_eq_natCast]
  · rename_i d ety k k2 n hD hx hi
    have hi' : a.eval i = .int k2 n := opndc_ok h.sat h.tags hi
    have hv := opndc_ok h.sat h.tags hx
    obtain ⟨de, hde, hkd, _⟩ := (h.ctx.D t d hD).desc
    split at he
    · rename_i el ety' T e2 l hk hty hbx
      obtain ⟨h1, h2⟩ := cnd_some he
      obtain ⟨h1, h1'⟩ := andd_true h1
      have h1 := beq_eq h1
      have hin := h.need' h2
      unfold kindOk at hkd
      rw [hk] at hkd
      obtain ⟨_, rfl, t', ag, hty', hinfo⟩ := hkd
      rw [hty] at hty'
      cases hty'
      obtain ⟨b, p, cap, T', hm, hp, hu, _⟩ := vref_at h.sat hv (vec_len h.sat hbx) (by omega)
      refine h.out0 h2 (v := .pointer (some ⟨b, n.toNat * ety.n + 0, none⟩)) ?_ ⟨b, p, hm, hp, rfl, by rw [vec_len h.sat hbx b p hm]; omega⟩
      simp only [execOp, hop, hu, hi', Instr.indexAt, Sem.run_bind, run_underlying hde, Result.andThen_ok, asIntOf, Sem.run_pure]
      rw [if_pos hin]
      simp only [Sem.run_bind, run_sizeOf hinfo, Result.andThen_ok, Sem.run_pure, add_none, ← h1, Nat.add_zero, Nat.zero_add]
    · rename_i el ety' e2 l hk hty hbx
      obtain ⟨h1, h2⟩ := cnd_some he
      obtain ⟨h1, h1'⟩ := andd_true h1
      have h1 := beq_eq h1
      have h1' := beq_eq h1'
      have hin := h.need' h2
      unfold kindOk at hkd
      rw [hk] at hkd
      obtain ⟨_, rfl, t', ag, hty', hinfo⟩ := hkd
      rw [hty] at hty'
      cases hty'
      obtain ⟨b, p, cap, T', hm, hp, hu, _⟩ := vref_at h.sat hv (frz_len h.sat hbx) (by omega)
      obtain ⟨b', p', h3, h5⟩ := h.sat.box k _ hbx
      rw [hm] at h3
      cases h3
      have h5 := (h5.resolve_left (by rintro ⟨h0, _⟩; rw [h0] at hin; simp at hin; omega)).2
      refine h.out0 h2 (v := .pointer (some ⟨b, 0 + (n.toNat * e2.n + 0), none⟩)) ?_ ⟨b, 0, rfl, by omega, h5⟩
      simp only [execOp, hop, hu, hi', Instr.indexAt, Sem.run_bind, run_underlying hde, Result.andThen_ok, asIntOf, Sem.run_pure]
      rw [if_pos hin]
      simp only [Sem.run_bind, run_sizeOf hinfo, Result.andThen_ok, Sem.run_pure, add_none, ← h1, h1', Nat.add_zero, Nat.zero_add]
    · cases he
  · cases he
end
end Go.Proofs.Ytghlpolodjlgjaa.Sy
