/- The symbolic evaluator is sound: single operations (own work). -/
import Derived.Test.YtghlpolodjlgjaaSp
namespace Go.Proofs.Ytghlpolodjlgjaa.Sy
open Go Go.RowKit
set_option linter.unusedVariables false
set_option linter.unusedSimpArgs false

theorem add_none (b o j : Nat) : (⟨b, o, none⟩ : Addr).add j = ⟨b, o + j, none⟩ := by
  unfold Addr.add; split <;> simp_all

section
variable {φ : Fr} {ν : Nat → Bool} {m : Map} {st : ASt} {a : Act} {w w' : World} {own : List (Nat × Bool)} {W : List Nat} {P : Program} {C : Ctx} {o : Oper} {e : Eff}
  {K : Act → World → Prop} {Q : Exit → Act → World → Prop}

theorem mkSV_ok {X : Nat → Nat → Prop} {agg : Bool} {cs : List Cell} {v : SV} {vs : List Value} (h : mkSV agg cs = some v) (hc : CRs m X w cs vs) : SR m X w v (mkV agg vs) := by
  unfold mkSV at h
  cases agg with
  | true => simp only [cnd, Option.some.injEq] at h; subst h; exact ⟨_, rfl, by simpa using hc⟩
  | false =>
    simp only [cnd] at h
    split at h
    · simp only [Option.some.injEq] at h
      subst h
      match vs, hc with | [v], hc => exact hc.1
    · cases h

theorem mkSV_one {cs : List Cell} {v : SV} (h : mkSV false cs = some v) : cs.length = 1 := by
  unfold mkSV at h
  simp only [cnd] at h
  split at h
  · rfl
  · cases h

theorem SV.cells_ok {X : Nat → Nat → Prop} {v : SV} {u : Value} (h : SR m X w v u) : CRs m X w v.cells u.cells.toList := by
  cases v with
  | one c =>
    have h1 : CR m X w c u := h
    have : u.cells = #[u] := by
      cases c with
      | lst t tl l =>
        rcases h1.1 with ⟨_, rfl⟩ | ⟨a, cap, rfl, _⟩ <;> rfl
      | box k off => obtain ⟨b, _, rfl⟩ := h1; rfl
      | elem t l i off => obtain ⟨b, o, rfl, _⟩ := h1; rfl
      | vref t k => obtain ⟨b, p, _, _, h2⟩ := h1; rcases h2 with ⟨_, rfl⟩ | ⟨_, cap, T, rfl, _⟩ <;> rfl
      | velem t k i off => obtain ⟨b, p, _, _, rfl, _⟩ := h1; rfl
      | fn f => cases f <;> (cases h1; rfl)
      | clo f ks => obtain ⟨vs, rfl, _⟩ := h1; rfl
      | aelem k off e len i => obtain ⟨b, _, rfl, _⟩ := h1; rfl
      | _ => cases h1; rfl
    rw [this]
    exact ⟨h1, trivial⟩
  | agg cs => obtain ⟨vs, rfl, h2⟩ := h; exact h2

theorem CR.one {X : Nat → Nat → Prop} {c : Cell} {u : Value} (h : CR m X w c u) : u.oneCell' = true := by
  cases c with
  | lst t tl l => rcases h.1 with ⟨_, rfl⟩ | ⟨a, cap, rfl, _⟩ <;> rfl
  | box k off => obtain ⟨b, _, rfl⟩ := h; rfl
  | elem t l i off => obtain ⟨b, o, rfl, _⟩ := h; rfl
  | vref t k => obtain ⟨b, p, _, _, h2⟩ := h; rcases h2 with ⟨_, rfl⟩ | ⟨_, cap, T, rfl, _⟩ <;> rfl
  | velem t k i off => obtain ⟨b, p, _, _, rfl, _⟩ := h; rfl
  | fn f => cases f <;> (cases h; rfl)
  | clo f ks => obtain ⟨vs, rfl, _⟩ := h; rfl
  | aelem k off e len i => obtain ⟨b, _, rfl, _⟩ := h; rfl
  | _ => cases h; rfl

theorem run_sizeOf {t : TypeId} {ty : Ty} {ag : Bool} (h : InfoOk P t ty ag) : (sizeOf t).run P w = .ok ty.n w := by
  obtain ⟨i, h1, h2, h3⟩ := h.info
  simp [sizeOf, typeInfo, h1, h2]
theorem run_zeroValue {t : TypeId} {ty : Ty} {ag : Bool} (h : InfoOk P t ty ag) : (zeroValue t).run P w = .ok (mkV ag (zeroVs ty)) w := by
  obtain ⟨i, h1, h2, h3⟩ := h.info
  simp [zeroValue, typeInfo, h1, h3]

theorem run_loadVar {t : TypeId} {d : TD} (hT : TDOk P t d) {b o : Nat} {vs : List Value} (hlen : vs.length = d.ty.n) (hc : ∀ j, j < d.ty.n → w.cell? ⟨b, o + j, none⟩ = some (vs.getD j undef))
    (hone : d.agg = false → d.ty.n = 1) : (loadVar t ⟨b, o, none⟩).run P w = .ok (mkV d.agg vs) w := by
  unfold loadVar
  simp only [Sem.run_bind, hT.isAgg, Result.andThen_ok]
  cases hd : d.agg with
  | true =>
    simp only [if_true, Sem.run_bind, run_sizeOf hT.info, Result.andThen_ok]
    rw [run_loadCells w ⟨b, o, none⟩ d.ty.n (fun j => vs.getD j undef) (fun j hj => by rw [add_none]; exact hc j hj)]
    simp only [Result.andThen_ok, Sem.run_pure, mkV, if_true]
    congr 3
    apply List.ext_getElem?
    intro j
    by_cases hj : j < d.ty.n
    · simp [hj, hlen]
    · simp [hj, hlen, List.getElem?_eq_none (show vs.length ≤ j by omega)]
  | false =>
    have h1 := hone hd
    have := hc 0 (by omega)
    simp only [Nat.add_zero] at this
    simp only [Bool.false_eq_true, if_false, run_load, this, mkV]
    match vs, hlen with
    | [v], _ => rfl
    | [], hl => simp at hl; omega
    | _ :: _ :: _, hl => simp at hl; omega

theorem fin (hs : SatM φ ν m st a w') {d : Nat} {tv : TV} {v : Value} {p : Option Prop} (hdst : o.dst = some d) (hd : ∀ d, o.dst = some d → d < φ.n ∧ φ.D d = true)
    (hrun : (execOp a.eval o).run P w = .ok (.value v) w') (hown : holdsTags ν own) (hv : VR m (XA φ m) w' tv v)
    (hK : ∀ a' w', Sat φ ν ((Eff.mk p (some (d, tv)) []).apply own st) a' w' → K a' w') : o.wp P a w K Q := by
  unfold Oper.wp
  rw [hrun]
  show K (a.put o.dst v) w'
  rw [hdst]
  exact hK _ _ ⟨m, hs.put (hd d hdst).1 (hd d hdst).2 hown hv⟩

theorem outE_spec {p : Option Prop} {v : SV} (h : outE o p v = some e) : ∃ d, o.dst = some d ∧ e = ⟨p, some (d, .v v), []⟩ := by
  unfold outE at h
  split at h
  · rename_i d hd; simp only [Option.some.injEq] at h; exact ⟨d, hd, h.symm⟩
  · cases h

/-- What is asked of a frame. -/
structure FrOk (G : Gd) (φ : Fr) : Prop where
  wok : G.H φ.base
  gl : φ.gl = G.gl

/-- What is asked where an operation is met. -/
structure At (P : Program) (C : Ctx) (φ : Fr) (ν : Nat → Bool) (own : List (Nat × Bool)) (W : List Nat) (st : ASt) (o : Oper) (e : Eff) (m : Map) (a : Act) (w : World) (K : Act → World → Prop) : Prop where
  ctx : CtxOk P C
  fr : FrOk C.G φ
  ev : evOp C own W st o = some e
  need : ∀ p, e.need = some p → p
  tags : holdsTags ν own
  yes : ∀ d, d ∈ W → ∀ g c, st.slot d = some g → g.tv = .v (.one (.bool c)) → ν d = c
  sat : SatM φ ν m st a w
  dst : ∀ d, o.dst = some d → d < φ.n ∧ φ.D d = true
  next : ∀ a' w', Sat φ ν (e.apply own st) a' w' → K a' w'

theorem At.out {sv : SV} {p : Option Prop} {v : Value} (h : At P C φ ν own W st o e m a w K) (h' : outE o p sv = some e) (hrun : (execOp a.eval o).run P w = .ok (.value v) w') (hb : Below w.heap.size w w')
    (hv : SR m (XA φ m) w' sv v) : o.wp P a w K Q := by
  obtain ⟨d, hd, rfl⟩ := outE_spec h'
  exact fin (tv := .v sv) (h.sat.ext hb) hd h.dst hrun h.tags hv h.next

theorem At.out0 {sv : SV} {p : Option Prop} {v : Value} (h : At P C φ ν own W st o e m a w K) (h' : outE o p sv = some e) (hrun : (execOp a.eval o).run P w = .ok (.value v) w)
    (hv : SR m (XA φ m) w sv v) : o.wp P a w K Q := h.out h' hrun (Below.refl _ _) hv

theorem At.need' {sv : SV} {p : Prop} (h : At P C φ ν own W st o e m a w K) (h' : outE o (some p) sv = some e) : p := by
  obtain ⟨d, hd, rfl⟩ := outE_spec h'
  exact h.need p rfl

theorem ok_move {x : Operand} (hop : o.op = .move x) (h : At P C φ ν own W st o e m a w K) : o.wp P a w K Q := by
  have he := h.ev
  simp only [evOp, hop] at he
  split at he
  · rename_i v d hv hd
    simp only [Option.some.injEq] at he
    subst he
    exact fin h.sat hd h.dst (by simp [execOp, hop]) h.tags (opnd_ok h.sat h.tags hv) h.next
  · cases he

theorem ok_assign {x : Operand} (hop : o.op = .assign x) (h : At P C φ ν own W st o e m a w K) : o.wp P a w K Q := by
  have he := h.ev
  simp only [evOp, hop] at he
  split at he
  · rename_i v d hv hd
    simp only [Option.some.injEq] at he
    subst he
    exact fin h.sat hd h.dst (by simp [execOp, hop]) h.tags (opnd_ok h.sat h.tags hv) h.next
  · cases he

theorem tags_cons {d : Nat} {b : Bool} {W : List Nat} (h : holdsTags ν own) (hb : d ∈ W → ν d = b) : holdsTags ν (cnd (mem d W) ((d, b) :: own) own) := by
  cases hm : mem d W with
  | false => exact h
  | true =>
    intro x hx
    rcases List.mem_cons.1 hx with rfl | hx
    · exact hb (mem_spec.1 hm)
    · exact h x hx

theorem mergeC_ok {X : Nat → Nat → Prop} {c : Bool} {x y z : Cell} {u v : Value} (h : mergeC c x y = some z) (hx : c = true → CR m X w x u) (hy : c = false → CR m X w y v) : CR m X w z (if c then u else v) := by
  unfold mergeC at h
  split at h
  · obtain ⟨h1, h2⟩ := cnd_some h
    simp only [Option.some.injEq] at h2
    subst h2
    cases c with
    | true => exact hx rfl
    | false => rw [keq_eq h1]; exact hy rfl
  · simp only [Option.some.injEq] at h
    subst h
    cases c with
    | true => exact hx rfl
    | false => exact hy rfl
  · obtain ⟨h1, h2⟩ := cnd_some h
    simp only [Option.some.injEq] at h2
    subst h2
    cases c with
    | true => exact hx rfl
    | false => rw [feq_eq h1]; exact hy rfl
  · simp only [Option.some.injEq] at h
    subst h
    cases c with
    | true => exact hx rfl
    | false => exact hy rfl
  · simp only [Option.some.injEq] at h
    subst h
    cases c with
    | true => exact hx rfl
    | false => exact hy rfl
  · split at h
    case h_2 => cases h
    rename_i b' hb
    obtain ⟨rfl, hb'⟩ := castL_ok hb
    simp only at hb'
    subst hb'
    simp only [Option.some.injEq] at h
    subst h
    cases c with
    | true => exact ⟨(hx rfl).1, trivial⟩
    | false => exact ⟨(hy rfl).1, trivial⟩
  · cases h

theorem mergeL_ok {X : Nat → Nat → Prop} {c : Bool} : ∀ {xs ys zs : List Cell} {us vs : List Value}, mergeL c xs ys = some zs → us.length = xs.length → vs.length = ys.length → (c = true → CRs m X w xs us) → (c = false → CRs m X w ys vs) → CRs m X w zs (if c then us else vs)
  | [], [], zs, us, vs, h, hu, hv, hx, hy => by
    simp only [mergeL, Option.some.injEq] at h
    subst h
    cases c with
    | true => exact hx rfl
    | false => exact hy rfl
  | x :: xs, y :: ys, zs, [], vs, h, hu, hv, hx, hy => by simp at hu
  | x :: xs, y :: ys, zs, us, [], h, hu, hv, hx, hy => by simp at hv
  | x :: xs, y :: ys, zs, u :: us, v :: vs, h, hu, hv, hx, hy => by
    simp only [mergeL] at h
    split at h
    case h_2 => cases h
    rename_i z l hz hl
    simp only [Option.some.injEq] at h
    subst h
    have h1 := mergeC_ok (u := u) (v := v) hz (fun hc => (hx hc).1) (fun hc => (hy hc).1)
    have h2 := mergeL_ok (us := us) (vs := vs) hl (by simpa using hu) (by simpa using hv) (fun hc => (hx hc).2) (fun hc => (hy hc).2)
    cases c with
    | true => exact ⟨h1, h2⟩
    | false => exact ⟨h1, h2⟩
  | [], _ :: _, zs, us, vs, h, _, _, _, _ => by simp [mergeL] at h
  | _ :: _, [], zs, us, vs, h, _, _, _, _ => by simp [mergeL] at h

/-- The same, of values. -/
def putV (e : Nat) (i : Int) (nv : List Value) : Nat → Nat → List Value → List Value
  | 0, _, us => us
  | n + 1, j, us => (if i = (j : Int) then nv else us.take e) ++ putV e i nv n (j + 1) (us.drop e)
theorem putAt_ok {X : Nat → Nat → Prop} {e : Nat} {i : Int} {new : List Cell} {nv : List Value} (hnew : CRs m X w new nv) (hnl : nv.length = e) : ∀ {n j : Nat} {cs xs : List Cell} {us : List Value}, putAt e i new n j cs = some xs → CRs m X w cs us → us.length = n * e →
    CRs m X w xs (putV e i nv n j us)
  | 0, j, cs, xs, us, h, hc, hl => by
    cases cs with
    | nil => simp only [putAt, Option.some.injEq] at h; subst h; exact hc
    | cons => simp [putAt] at h
  | n + 1, j, cs, xs, us, h, hc, hl => by
    simp only [putAt] at h
    split at h
    case h_2 => cases h
    rename_i z l hz hl'
    simp only [Option.some.injEq] at h
    subst h
    have hcl := hc.length
    have hle : e ≤ us.length := by rw [hl, Nat.succ_mul]; omega
    have h1 := mergeL_ok (us := nv) (vs := us.take e) hz hnew.length.symm (by simp; omega) (fun _ => hnew) (fun _ => All2.take e hc)
    have h2 := putAt_ok hnew hnl (us := us.drop e) hl' (All2.drop e hc) (by rw [List.length_drop, hl, Nat.succ_mul]; omega)
    rw [app_eq]
    refine All2.append ?_ h2
    by_cases hij : i = (j : Int)
    · have : (i == (j : Int)) = true := by simpa using hij
      rw [this] at h1; simpa [hij, CRs] using h1
    · have : (i == (j : Int)) = false := by simpa using hij
      rw [this] at h1; simpa [hij, CRs] using h1
theorem putV_no {e : Nat} {i : Int} {nv : List Value} : ∀ {n j : Nat} {us : List Value}, us.length = n * e → i < (j : Int) → putV e i nv n j us = us
  | 0, j, us, hl, hij => rfl
  | n + 1, j, us, hl, hij => by
    simp only [putV]
    rw [if_neg (by omega), putV_no (by rw [List.length_drop, hl, Nat.succ_mul]; omega) (by omega), List.take_append_drop]
theorem putV_eq {e : Nat} {i : Int} {nv : List Value} (hi : 0 ≤ i) : ∀ {n j : Nat} {us : List Value}, us.length = n * e → (j : Int) ≤ i → i < (j + n : Int) →
    putV e i nv n j us = us.take ((i.toNat - j) * e) ++ nv ++ us.drop ((i.toNat - j) * e + e)
  | 0, j, us, hl, h1, h2 => by omega
  | n + 1, j, us, hl, h1, h2 => by
    simp only [putV]
    by_cases hij : i = (j : Int)
    · have : i.toNat - j = 0 := by omega
      rw [if_pos hij, this, Nat.zero_mul, List.take_zero, List.nil_append, Nat.zero_add, putV_no (by rw [List.length_drop, hl, Nat.succ_mul]; omega) (by omega)]
    · rw [if_neg hij, putV_eq hi (by rw [List.length_drop, hl, Nat.succ_mul]; omega) (by omega) (by omega)]
      have hk : (i.toNat - j) * e = e + (i.toNat - (j + 1)) * e := by
        rw [show i.toNat - j = (i.toNat - (j + 1)) + 1 by omega, Nat.succ_mul]; omega
      rw [hk, List.drop_drop, show e + ((i.toNat - (j + 1)) * e + e) = e + (i.toNat - (j + 1)) * e + e by omega]
      rw [← List.append_assoc, ← List.append_assoc, List.take_add]

theorem decAll_ok {X : Nat → Nat → Prop} {t : Ty} : ∀ {n : Nat} {cs : List Cell} {l : List t.den} {vs : List Value}, decAll t n cs = some l → CRs m X w cs vs →
    l.length = n ∧ vs.length = n * t.n ∧ ∀ i (h : i < l.length), TR w X t l[i] ((vs.drop (i * t.n)).take t.n)
  | 0, cs, l, vs, h, hc => by
    cases cs with
    | nil =>
      simp only [decAll, Option.some.injEq] at h
      subst h
      have := hc.length
      simp at this
      refine ⟨rfl, by rw [← this]; simp, fun i h => by simp at h⟩
    | cons c cs => simp [decAll] at h
  | n + 1, cs, l, vs, h, hc => by
    simp only [decAll] at h
    split at h
    case h_2 => cases h
    rename_i x l' hx hl
    simp only [Option.some.injEq] at h
    subst h
    obtain ⟨h1, h2, h3⟩ := decAll_ok hl (All2.drop t.n hc)
    have hx' := dec_ok hx (All2.take t.n hc)
    have hxl := hx'.len
    simp only [List.length_take, List.length_drop] at hxl h2
    refine ⟨by simp [h1], by rw [Nat.succ_mul]; omega, fun i hi => ?_⟩
    cases i with
    | zero => simpa using hx'
    | succ i =>
      have := h3 i (by simpa using hi)
      simp only [List.getElem_cons_succ]
      rw [List.drop_drop, show t.n + i * t.n = (i + 1) * t.n by rw [Nat.succ_mul]; omega] at this
      exact this

theorem ok_pick {c x y : Operand} (hop : o.op = .pick c x y) (h : At P C φ ν own W st o e m a w K) : o.wp P a w K Q := by
  have he := h.ev
  simp only [evOp, hop] at he
  split at he
  case h_2 => cases he
  rename_i cv ct hc hct
  have hcv : a.eval c = .bool cv := opndc_ok h.sat h.tags hc
  have hct' : c = .tmp ct := by
    revert hct; cases c <;> simp
  have hW : ct ∈ W → ν ct = cv := by
    intro hin
    subst hct'
    simp only [opndc, opnd] at hc
    split at hc
    · rename_i s' hs'
      split at hs'
      · rename_i g hg
        obtain ⟨_, h2⟩ := cnd_some hs'
        simp only [Option.some.injEq] at h2 hc
        exact h.yes ct hin g cv hg (by rw [h2, hc])
      · cases hs'
    · cases hc
  have hrun : (execOp a.eval o).run P w = .ok (.value (if cv then a.eval x else a.eval y)) w := by
    simp [execOp, hop, hcv, asBool]
  split at he
  case h_2 => cases he
  rename_i xc yc hx hy
  have hX : cv = true → CR m (XA φ m) w xc (a.eval x) := fun ht => opndc_ok h.sat (tags_cons h.tags fun hin => by rw [hW hin, ht]) hx
  have hY : cv = false → CR m (XA φ m) w yc (a.eval y) := fun ht => opndc_ok h.sat (tags_cons h.tags fun hin => by rw [hW hin, ht]) hy
  split at he
  · split at he
    · rename_i yb
      refine h.out0 he hrun ?_
      cases cv with
      | true => exact rfl
      | false => exact hY rfl
    · cases he
  · split at he
    · rename_i xb
      refine h.out0 he hrun ?_
      cases cv with
      | true => exact hX rfl
      | false => exact rfl
    · cases he
  · split at he
    · rename_i z hz
      exact h.out0 he hrun (mergeC_ok hz hX hY)
    · cases he

theorem mkSV_cells {agg : Bool} {cs : List Cell} {v : SV} (h : mkSV agg cs = some v) : v.cells = cs := by
  unfold mkSV at h
  cases agg with
  | true => simp only [cnd, Option.some.injEq] at h; subst h; rfl
  | false =>
    simp only [cnd] at h
    split at h
    · simp only [Option.some.injEq] at h; subst h; rfl
    · cases h

theorem zero_ok {X : Nat → Nat → Prop} : ∀ t : Ty, CRs m X w (zeroCells t) (zeroVs t) := by
  intro t
  induction t with
  | pair a b iha ihb => simp only [zeroCells, zeroVs, app_eq]; exact All2.append iha ihb
  | sl e ih => exact ⟨⟨.inl ⟨rfl, rfl⟩, .inl ⟨rfl, rfl⟩⟩, trivial⟩
  | unit => trivial
  | _ => exact ⟨rfl, trivial⟩

theorem zero_len : ∀ t : Ty, (zeroCells t).length = t.n := by
  intro t
  induction t with
  | pair a b iha ihb => simp [zeroCells, app_eq, Ty.n, iha, ihb]
  | _ => rfl

theorem zeroV_cells {d : TD} (h1 : d.agg = false → d.ty.n = 1) {X : Nat → Nat → Prop} : CRs m X w (zeroCells d.ty) (mkV d.agg (zeroVs d.ty)).cells.toList := by
  have : ∃ v, mkSV d.agg (zeroCells d.ty) = some v := by
    unfold mkSV
    cases hd : d.agg with
    | true => exact ⟨_, rfl⟩
    | false =>
      have := zero_len d.ty
      rw [h1 hd] at this
      match hz : zeroCells d.ty, this with
      | [c], _ => exact ⟨_, rfl⟩
  obtain ⟨v, hv⟩ := this
  have := SV.cells_ok (mkSV_ok hv (zero_ok (m := m) (X := X) (w := w) d.ty))
  rwa [mkSV_cells hv] at this

theorem ok_alloc {t : TypeId} (hop : o.op = .alloc t) (h : At P C φ ν own W st o e m a w K) : o.wp P a w K Q := by
  have he := h.ev
  simp only [evOp, hop] at he
  split at he
  case h_2 => cases he
  rename_i d k hD hk
  split at he
  case h_2 => cases he
  rename_i hnone
  simp only [Option.some.injEq] at he
  subst he
  have hT := h.ctx.D t d hD
  have hrun : (execOp a.eval o).run P w = .ok (.value (.pointer (some ⟨w.heap.size, 0, none⟩))) (w.alloc (.cells (mkV d.agg (zeroVs d.ty)).cells t)) := by
    simp [execOp, hop, Instr.alloc, run_zeroValue hT.info, newVar, newRow]
  unfold Oper.wp
  rw [hrun]
  show K (a.put o.dst _) _
  rw [hk]
  exact h.next _ _ (h.sat.newBox (h.dst k hk).1 (h.dst k hk).2 hnone (zeroV_cells hT.one) h.tags)

theorem ok_box {t : TypeId} {x : Operand} (hop : o.op = .box t x) (h : At P C φ ν own W st o e m a w K) : o.wp P a w K Q := by
  have he := h.ev
  simp only [evOp, hop] at he
  split at he
  case h_2 => cases he
  rename_i v k hv hk
  split at he
  case h_2 => cases he
  rename_i hnone
  simp only [Option.some.injEq] at he
  subst he
  have hrun : (execOp a.eval o).run P w = .ok (.value (.pointer (some ⟨w.heap.size, 0, none⟩))) (w.alloc (.cells (a.eval x).cells t)) := by
    simp [execOp, hop, Instr.box, newVar, newRow]
  unfold Oper.wp
  rw [hrun]
  show K (a.put o.dst _) _
  rw [hk]
  exact h.next _ _ (h.sat.newBox (h.dst k hk).1 (h.dst k hk).2 hnone (SV.cells_ok (opnd1_ok h.sat h.tags hv)) h.tags)

/-- The cells of a box, as the world holds them. -/
theorem box_cells (hs : SatM φ ν m st a w) {k off : Nat} {cs : List Cell} {u : Value} (hu : CR m (XA φ m) w (.box k off) u) (hb : st.box k = some (.cells cs) ∨ st.box k = some (.ro cs)) :
    ∃ b vs T, m k = some (b, 0) ∧ u = .pointer (some ⟨b, off, none⟩) ∧ w.heap[b]? = some (.cells vs T (0, 0)) ∧ CRs m (XA φ m) w cs vs.toList := by
  obtain ⟨b, h1, rfl⟩ := hu
  rcases hb with hb | hb
  all_goals
    obtain ⟨b', vs, T, h2, h3, h4⟩ := hs.box k _ hb
    rw [h1] at h2
    simp only [Option.some.injEq, Prod.mk.injEq, and_true] at h2
    subst h2
    exact ⟨b, vs, T, h1, rfl, h3, h4⟩

theorem cell_heap {b j : Nat} {vs : Array Value} {T : TypeId} {z : Nat × Nat} (h : w.heap[b]? = some (.cells vs T z)) : w.cell? ⟨b, j, none⟩ = vs[j]? := by
  simp [World.cell?, h]

theorem run_storeCells_row (g o : Nat) (t : TypeId) : ∀ (vs : List Value) (i : Nat) (cur : Array Value) (w : World) {z : Nat × Nat}, w.heap[g]? = some (.cells cur t z) → FzOk z cur.size → o + i + vs.length ≤ cur.size → (∀ v ∈ vs, v.oneCell' = true) →
    (storeCells ⟨g, o, none⟩ vs i).run P w = .ok () (w.setRow g (cur.toList.take (o + i) ++ vs ++ cur.toList.drop (o + i + vs.length)).toArray)
  | [], i, cur, w, z, hg, _, _, _ => by
    simp only [storeCells, List.append_nil, List.length_nil, Nat.add_zero, List.take_append_drop, Array.toArray_toList]
    rw [setRow_self w g cur t z hg]
    rfl
  | v :: rest, i, cur, w, z, hg, hz, hl, h1 => by
    have hi : o + i < cur.size := by simp at hl; omega
    have hadd : (⟨g, o, none⟩ : Addr).add i = ⟨g, o + i, none⟩ := by unfold Addr.add; split <;> simp_all
    have hcell : w.cell? ⟨g, o + i, none⟩ = some cur[o + i] := by simp [World.cell?, hg, hi]
    have hfro : w.frozen? ⟨g, o + i, none⟩ = false := by
      simp only [World.frozen?, hg]
      rcases hz with rfl | rfl
      · simp
      · simp; omega
    have hst : (store ((⟨g, o, none⟩ : Addr).add i) v).run P w = .ok () (w.setRow g (cur.setIfInBounds (o + i) v)) := by
      rw [hadd, run_store P w _ v _ (h1 v (by simp)), hcell]
      simp [hfro, setCell_eq_setRow w g (o + i) cur t z v hg]
    have ih := run_storeCells_row g o t rest (i + 1) (cur.setIfInBounds (o + i) v) (w.setRow g (cur.setIfInBounds (o + i) v)) (setRow_heap w g cur _ t _ hg) (by simpa using hz) (by simp at hl ⊢; omega) (fun x hx => h1 x (by simp [hx]))
    simp only [storeCells, Sem.run_bind, hst, Result.andThen_ok, ih, setRow_setRow]
    congr 3
    have e := list_seg_step cur.toList (o + i) v rest (by simp at hl ⊢; omega)
    simpa [Array.toList_setIfInBounds, Nat.add_assoc] using e

/-- A row of its own, as long as somebody tells of one of its elements. -/
theorem vec_live (hs : SatM φ ν m st a w) {k b p i : Nat} {T : TypeId} {e : Ty} {l : List e.den} (hb : st.box k = some (.vec true T e l)) (hm : m k = some (b, p)) (hi : i < vlen p) :
    p = 2 * l.length + 2 ∧ VecAt (XA φ m) w b T e l := by
  obtain ⟨b', p', h1, h2⟩ := hs.box k _ hb
  rw [hm] at h1
  cases h1
  rcases h2 with ⟨h2, h3⟩ | ⟨h2, h3⟩ | ⟨h2, _⟩
  · rw [h3] at hi; simp [vlen] at hi
  · exact ⟨h2, h3⟩
  · cases h2

theorem ok_load {t : TypeId} {x : Operand} (hop : o.op = .load t x) (h : At P C φ ν own W st o e m a w K) : o.wp P a w K Q := by
  have he := h.ev
  simp only [evOp, hop] at he
  split at he
  case h_5 => cases he
  · rename_i k off d hx hD
    have hT := h.ctx.D t d hD
    have main : ∀ cs, (st.box k = some (.cells cs) ∨ st.box k = some (.ro cs)) →
        (match mkSV d.agg ((cs.drop off).take d.ty.n) with | some v => cnd (Nat.ble (Nat.add off d.ty.n) (len' cs)) (outE o none v) none | none => none) = some e → o.wp P a w K Q := by
      intro cs hbx he
      split at he
      case h_2 => cases he
      rename_i v hv
      obtain ⟨h1, h2⟩ := cnd_some he
      have hle : off + d.ty.n ≤ cs.length := by have := Nat.le_of_ble_eq_true h1; rwa [len'_eq] at this
      obtain ⟨b, vs, T, hm, hu, hh, hcs⟩ := box_cells h.sat (opndc_ok h.sat h.tags hx) hbx
      have hlen := hcs.length
      have hsub : CRs m (XA φ m) w ((cs.drop off).take d.ty.n) ((vs.toList.drop off).take d.ty.n) := All2.take _ (All2.drop _ hcs)
      have hrun : (execOp a.eval o).run P w = .ok (.value (mkV d.agg ((vs.toList.drop off).take d.ty.n))) w := by
        simp only [execOp, hop, hu, Instr.loadAt, Instr.sureAddr, Sem.run_bind, Sem.run_pure, Result.andThen_ok]
        rw [run_loadVar hT (vs := (vs.toList.drop off).take d.ty.n) (by simp at hlen ⊢; omega) (fun j hj => by
          rw [cell_heap hh]
          simp at hlen
          rw [List.getD_eq_getElem?_getD, List.getElem?_take, if_pos hj, List.getElem?_drop, Array.getElem?_toList, Array.getElem?_eq_getElem (by omega)]
          rfl) hT.one]
        rfl
      exact h.out0 h2 hrun (mkSV_ok hv hsub)
    split at he
    · rename_i cs hbx
      refine main cs ?_ he
      unfold rdBox at hbx
      split at hbx
      · rename_i hq; simp only [Option.some.injEq] at hbx; subst hbx; exact .inl hq
      · rename_i hq; simp only [Option.some.injEq] at hbx; subst hbx; exact .inr hq
      · cases hbx
    · cases he
  · rename_i ety l i off d hx hD
    have hT := h.ctx.D t d hD
    split at he
    case h_2 => cases he
    rename_i v hv
    obtain ⟨h1, h2⟩ := cnd_some he
    have hle : off + d.ty.n ≤ ety.n := Nat.le_of_ble_eq_true h1
    obtain ⟨b, o', hu, hi, hrows⟩ := opndc_ok h.sat h.tags hx
    obtain ⟨vs, hl, hc, hr⟩ := hrows.1 i.toNat hi
    have hnth : nth ety l i = l[i.toNat] := by unfold nth; rw [List.getD_eq_getElem?_getD, List.getElem?_eq_getElem hi]; rfl
    have hcs := enc_ok (m := m) hr
    rw [← hnth] at hcs
    have hsub : CRs m (XA φ m) w (((enc ety (nth ety l i)).drop off).take d.ty.n) ((vs.drop off).take d.ty.n) := All2.take _ (All2.drop _ hcs)
    have hrun : (execOp a.eval o).run P w = .ok (.value (mkV d.agg ((vs.drop off).take d.ty.n))) w := by
      simp only [execOp, hop, hu, Instr.loadAt, Instr.sureAddr, Sem.run_bind, Sem.run_pure, Result.andThen_ok]
      rw [run_loadVar hT (vs := (vs.drop off).take d.ty.n) (by simp; omega) (fun j hj => by
        have := hc (off + j) (by omega)
        rw [show o' + (i.toNat * ety.n + off) + j = o' + (i.toNat * ety.n + (off + j)) by omega, this]
        rw [List.getD_eq_getElem?_getD, List.getD_eq_getElem?_getD, List.getElem?_take, if_pos hj, List.getElem?_drop]) hT.one]
      rfl
    exact h.out0 h2 hrun (mkSV_ok hv hsub)
  · rename_i k off ety len i d hx hD
    have hT := h.ctx.D t d hD
    split at he
    case h_2 => cases he
    rename_i cs hrd
    split at he
    case h_2 => cases he
    rename_i l hl
    split at he
    case h_2 => cases he
    rename_i v hv
    obtain ⟨h1, h2⟩ := cnd_some he
    obtain ⟨h0, h1⟩ := andd_true h1
    have h0 : d.ty.n = ety.n := beq_eq h0
    have hle : off + len * ety.n ≤ cs.length := by have := Nat.le_of_ble_eq_true h1; rwa [len'_eq] at this
    have hbx : st.box k = some (.cells cs) ∨ st.box k = some (.ro cs) := by
      unfold rdBox at hrd
      split at hrd
      · rename_i hq; simp only [Option.some.injEq] at hrd; subst hrd; exact .inl hq
      · rename_i hq; simp only [Option.some.injEq] at hrd; subst hrd; exact .inr hq
      · cases hrd
    obtain ⟨b, hm, hu, hi0, hi⟩ := opndc_ok h.sat h.tags hx
    obtain ⟨b', vs, T, hm', hu', hh, hcs⟩ := box_cells (off := 0) h.sat ⟨b, hm, rfl⟩ hbx
    rw [hm] at hm'
    cases hm'
    have hlen := hcs.length
    rw [Array.length_toList] at hlen
    obtain ⟨g1, g2, g3⟩ := decAll_ok hl (All2.take (len * ety.n) (All2.drop off hcs))
    have hil : i.toNat < l.length := by omega
    have him : i.toNat * ety.n + ety.n ≤ len * ety.n := by rw [← Nat.succ_mul]; exact Nat.mul_le_mul_right _ hi
    have hnth : nth ety l i = l[i.toNat] := by unfold nth; rw [List.getD_eq_getElem?_getD, List.getElem?_eq_getElem hil]; rfl
    have hr := g3 i.toNat hil
    have hcs2 := enc_ok (m := m) hr
    rw [← hnth] at hcs2
    clear hr g3 g2 hl
    have hlen : cs.length = vs.size := by have := hcs.length; rwa [Array.length_toList] at this
    have hnn := h0
    generalize len * ety.n = L at hle him hcs2 ⊢
    generalize i.toNat * ety.n = I at hu him hcs2 ⊢
    have hrun : (execOp a.eval o).run P w = .ok (.value (mkV d.agg ((((vs.toList.drop off).take L).drop I).take ety.n))) w := by
      simp only [execOp, hop, hu, Instr.loadAt, Instr.sureAddr, Sem.run_bind, Sem.run_pure, Result.andThen_ok]
      rw [run_loadVar hT (vs := (((vs.toList.drop off).take L).drop I).take ety.n) (by simp; omega) (fun j hj => by
        rw [cell_heap hh, List.getD_eq_getElem?_getD, List.getElem?_take, if_pos (by omega), List.getElem?_drop, List.getElem?_take, if_pos (by omega), List.getElem?_drop, Array.getElem?_toList,
          show off + I + j = off + (I + j) by omega, Array.getElem?_eq_getElem (by omega)]
        rfl) hT.one]
      rfl
    exact h.out0 h2 hrun (mkSV_ok hv hcs2)
  · rename_i e0 k i off d hx hD
    have hT := h.ctx.D t d hD
    split at he
    case h_2 => cases he
    rename_i T ety l hbx
    split at he
    case h_2 => cases he
    rename_i v hv
    obtain ⟨h1, h2⟩ := cnd_some he
    obtain ⟨h0, h1⟩ := andd_true h1
    have h0 : e0.n = ety.n := beq_eq h0
    have hle : off + d.ty.n ≤ ety.n := Nat.le_of_ble_eq_true h1
    obtain ⟨b, p, hm, hp, hu, hi⟩ := opndc_ok h.sat h.tags hx
    obtain ⟨hpl, vs, cap, ⟨z, hh, hz⟩, hsz, hcap, _, hel⟩ := vec_live h.sat hbx hm hi
    rw [hpl, vlen_live] at hi
    have hnth : nth ety l i = l[i.toNat] := by unfold nth; rw [List.getD_eq_getElem?_getD, List.getElem?_eq_getElem hi]; rfl
    have hr := hel i.toNat hi
    have hcs := enc_ok (m := m) hr
    rw [← hnth] at hcs
    have him : i.toNat * ety.n + ety.n ≤ vs.size := by rw [hsz, ← Nat.succ_mul]; exact Nat.mul_le_mul_right _ (by omega)
    have hsub : CRs m (XA φ m) w (((enc ety (nth ety l i)).drop off).take d.ty.n) ((((vs.toList.drop (i.toNat * ety.n)).take ety.n).drop off).take d.ty.n) := All2.take _ (All2.drop _ hcs)
    have hrun : (execOp a.eval o).run P w = .ok (.value (mkV d.agg ((((vs.toList.drop (i.toNat * ety.n)).take ety.n).drop off).take d.ty.n))) w := by
      simp only [execOp, hop, hu, Instr.loadAt, Instr.sureAddr, Sem.run_bind, Sem.run_pure, Result.andThen_ok]
      rw [run_loadVar hT (vs := (((vs.toList.drop (i.toNat * ety.n)).take ety.n).drop off).take d.ty.n) (by simp; omega) (fun j hj => by
        rw [cell_heap hh, h0, List.getD_eq_getElem?_getD, List.getElem?_take, if_pos hj, List.getElem?_drop, List.getElem?_take, if_pos (by omega), List.getElem?_drop, Array.getElem?_toList,
          show i.toNat * ety.n + off + j = i.toNat * ety.n + (off + j) by omega, Array.getElem?_eq_getElem (by omega)]
        rfl) hT.one]
      rfl
    exact h.out0 h2 hrun (mkSV_ok hv hsub)
end
end Go.Proofs.Ytghlpolodjlgjaa.Sy
