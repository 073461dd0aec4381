/- The symbolic evaluator is sound: parts laid over cells, slices that are built, builtins, calls (own work). -/
import Derived.Test.YtghlpolodjlgjaaSs
namespace Go.Proofs.Ytghlpolodjlgjaa.Sy
open Go Go.RowKit
set_option linter.unusedVariables false
set_option linter.unusedSimpArgs false

/-- Values laid over an array's cells. -/
theorem splice_fold : ∀ (xs : List Value) (off k : Nat) (cells : Array Value), off + k + xs.length ≤ cells.size →
    ((xs.zipIdx k).foldl (fun (cs : Array Value) (p : Value × Nat) => cs.setIfInBounds (off + p.2) p.1) cells).toList = cells.toList.take (off + k) ++ xs ++ cells.toList.drop (off + k + xs.length)
  | [], off, k, cells, h => by simp
  | x :: xs, off, k, cells, h => by
    simp only [List.zipIdx_cons, List.foldl_cons]
    rw [splice_fold xs off (k + 1) (cells.setIfInBounds (off + k) x) (by simp at h ⊢; omega)]
    have e := list_seg_step cells.toList (off + k) x xs (by simp at h ⊢; omega)
    simp only [Array.toList_setIfInBounds, List.length_cons]
    rw [show off + (k + 1) = off + k + 1 by omega]
    exact e

section
variable {φ : Fr} {ν : Nat → Bool} {m : Map} {st : ASt} {a : Act} {w w' : World} {own : List (Nat × Bool)} {W : List Nat} {P : Program} {C : Ctx} {o : Oper} {e : Eff}
  {K : Act → World → Prop} {Q : Exit → Act → World → Prop}

theorem fillP_ok (hC : CtxOk P C) (hs : SatM φ ν m st a w) (ht : holdsTags ν own) {place : Nat → Option (Nat × Nat)} {pl : Nat → Option (Nat × Nat)}
    (hpl : ∀ i tid off d, place i = some (tid, off) → C.D tid = some d → pl i = some (off, d.ty.n)) :
    ∀ (parts : List (Nat × Operand)) (cs cs' : List Cell) (vs : Array Value), fillP C st own place parts cs = some cs' → CRs m (XA φ m) w cs vs.toList →
      ∃ vs', Instr.fill pl vs (parts.map fun p => (p.1, a.eval p.2)) = some vs' ∧ CRs m (XA φ m) w cs' vs'.toList
  | [], cs, cs', vs, h, hc => by simp only [fillP, Option.some.injEq] at h; subst h; exact ⟨vs, rfl, hc⟩
  | (i, x) :: r, cs, cs', vs, h, hc => by
    simp only [fillP] at h
    split at h
    case h_2 => cases h
    rename_i tid off hp
    split at h
    case h_2 => cases h
    rename_i d v hD hv
    obtain ⟨h1, h2⟩ := cnd_some h
    obtain ⟨h1a, h1b⟩ := andd_true h1
    have hle : off + d.ty.n ≤ cs.length := by have := Nat.le_of_ble_eq_true h1b; rwa [len'_eq] at this
    have hvl : v.cells.length = d.ty.n := by rw [← len'_eq]; exact beq_eq h1a
    have hvc := SV.cells_ok (opnd1_ok hs ht hv)
    have hvcl := hvc.length
    have hlen := hc.length
    simp only [Array.length_toList] at hvcl hlen
    let vs1 := (a.eval x).cells.zipIdx.foldl (fun (cs : Array Value) (p : Value × Nat) => cs.setIfInBounds (off + p.2) p.1) vs
    have hvs1 : vs1.toList = vs.toList.take off ++ (a.eval x).cells.toList ++ vs.toList.drop (off + (a.eval x).cells.toList.length) := by
      have := splice_fold (a.eval x).cells.toList off 0 vs (by simp; omega)
      simp only [Nat.add_zero] at this
      rw [← this]
      simp only [vs1, ← Array.foldl_toList, Array.toList_zipIdx]
    obtain ⟨vs', h3, h4⟩ := fillP_ok hC hs ht hpl r (fillC cs off v.cells) cs' vs1 h2 (by
      rw [hvs1, fillC_eq, show (a.eval x).cells.toList.length = v.cells.length from hvc.length.symm]
      exact All2.append (All2.append (All2.take _ hc) hvc) (All2.drop _ hc))
    refine ⟨vs', ?_, h4⟩
    simp only [List.map_cons, Instr.fill, hpl i tid off d hp hD]
    rw [if_neg (by simp; omega)]
    exact h3

theorem mapM_places (fds : List Field) (hD : ∀ f ∈ fds, ∃ i, P.info? f.type = some i) :
    fds.mapM (fun f => (P.info? f.type).map fun i => (f.offset, i.size)) = some (fds.map fun f => (f.offset, P.cellsOf f.type)) := by
  induction fds with
  | nil => rfl
  | cons f fds ih =>
    obtain ⟨i, hi⟩ := hD f (by simp)
    have ih := ih (fun g hg => hD g (by simp [hg]))
    simp [List.mapM_cons, hi, ih, Program.cellsOf]

theorem cellsOf_info {t : TypeId} {ty : Ty} {ag : Bool} (h : InfoOk P t ty ag) : P.cellsOf t = ty.n := by
  obtain ⟨i, h1, h2, _⟩ := h.info
  simp [Program.cellsOf, h1, h2]

theorem ok_build {t : TypeId} {parts : Array (Nat × Operand)} (hop : o.op = .build t parts) (h : At P C φ ν own W st o e m a w K) : o.wp P a w K Q := by
  have he := h.ev
  simp only [evOp, hop] at he
  split at he
  case h_2 => cases he
  rename_i d hD
  have hT := h.ctx.D t d hD
  obtain ⟨de, hde, hkd, _⟩ := hT.desc
  obtain ⟨i, hi1, hi2, hi3⟩ := hT.info.info
  unfold kindOk at hkd
  split at he
  · rename_i fs hk
    rw [hk] at hkd
    obtain ⟨hag, fds, rfl, hmap, hinfo⟩ := hkd
    split at he
    case h_2 => cases he
    rename_i cs hfill
    have hz : CRs m (XA φ m) w (zeroCells d.ty) (zeroVs d.ty).toArray.toList := by simpa using zero_ok d.ty
    have hplaces := mapM_places (P := P) fds.toList (fun f hf => hinfo (f.type, f.offset) (by rw [← hmap]; exact List.mem_map.2 ⟨f, hf, rfl⟩))
    obtain ⟨vs', h1, h2⟩ := fillP_ok (pl := fun x => (fds.toList.map fun f => (f.offset, P.cellsOf f.type)).toArray[x]?) h.ctx h.sat h.tags (fun i tid off d' hp hd' => by
        rw [← hmap, List.getElem?_map, Option.map_eq_some_iff] at hp
        obtain ⟨f, hf, hfe⟩ := hp
        cases hfe
        simp only [List.getElem?_toArray, List.getElem?_map, hf, Option.map_some]
        rw [cellsOf_info (h.ctx.D _ d' hd').info]) parts.toList _ cs _ hfill hz
    have hb : P.built t (parts.map fun (i, x) => (i, a.eval x)).toList = some vs' := by
      unfold Program.built
      simp only [hi1, hde, hi3, hplaces, hag, mkV, if_true, Value.cells]
      rw [← h1]
      simp
    refine h.out0 he (v := .agg vs') ?_ ⟨vs', rfl, h2⟩
    simp only [execOp, hop, Sem.run_bind, run_build w t _ vs' hb, Result.andThen_ok]
    rfl
  · rename_i len el hk
    rw [hk] at hkd
    obtain ⟨hag, rfl⟩ := hkd
    split at he
    case h_2 => cases he
    rename_i d' hD'
    split at he
    case h_2 => cases he
    rename_i cs hfill
    obtain ⟨i', hi1', hi2', _⟩ := (h.ctx.D _ d' hD').info.info
    have hz : CRs m (XA φ m) w (zeroCells d.ty) (zeroVs d.ty).toArray.toList := by simpa using zero_ok d.ty
    obtain ⟨vs', h1, h2⟩ := fillP_ok (pl := fun x => some (x * i'.size, i'.size)) h.ctx h.sat h.tags (fun i tid off d'' hp hd'' => by
        simp only [Option.some.injEq, Prod.mk.injEq] at hp
        obtain ⟨rfl, rfl⟩ := hp
        rw [hD'] at hd''
        cases hd''
        rw [hi2']; rfl) parts.toList _ cs _ hfill hz
    have hb : P.built t (parts.map fun (i, x) => (i, a.eval x)).toList = some vs' := by
      unfold Program.built
      simp only [hi1, hde, hi3, hi1', hag, mkV, if_true, Value.cells]
      rw [← h1]
      simp
    refine h.out0 he (v := .agg vs') ?_ ⟨vs', rfl, h2⟩
    simp only [execOp, hop, Sem.run_bind, run_build w t _ vs' hb, Result.andThen_ok]
    rfl
  · cases he

theorem repC_ok {X : Nat → Nat → Prop} {z : List Cell} {zv : List Value} (h : CRs m X w z zv) : ∀ n, CRs m X w (repC z n) (List.replicate n zv).flatten
  | 0 => trivial
  | n + 1 => by
    simp only [repC, app_eq, List.replicate_succ, List.flatten_cons]
    exact All2.append h (repC_ok h n)

theorem zero_range (z : Array Value) (hz : 0 < z.size) : ∀ n, ((Array.range (n * z.size)).map (z[· % z.size]!)).toList = (List.replicate n z.toList).flatten := by
  intro n
  apply List.ext_getElem?
  intro k
  have hlen : ((List.replicate n z.toList).flatten).length = n * z.size := by simp [List.length_flatten, List.map_replicate, List.sum_replicate_nat]
  by_cases hk : k < n * z.size
  · have hq : k % z.size < z.size := Nat.mod_lt _ hz
    have h1 : ((Array.range (n * z.size)).map (z[· % z.size]!)).toList[k]? = some z[k % z.size] := by
      simp [hk, hq]
    rw [h1]
    clear h1 hlen
    induction n generalizing k with
    | zero => simp at hk
    | succ n ih =>
      rw [List.replicate_succ, List.flatten_cons, List.getElem?_append]
      by_cases hk2 : k < z.size
      · simp [hk2, Nat.mod_eq_of_lt hk2]
      · have e : (k - z.size) % z.size = k % z.size := by
          have hle : z.size ≤ k := by omega
          rw [← Nat.mod_eq_sub_mod hle]
        rw [if_neg (by simpa using hk2)]
        rw [Nat.succ_mul] at hk
        have := ih (k - z.size) (by omega) (Nat.mod_lt _ hz)
        simp only [Array.length_toList]
        rw [← this]
        congr 1
        exact (getElem_congr_idx e).symm
  · rw [List.getElem?_eq_none (by simp; omega), List.getElem?_eq_none (by omega)]
end
end Go.Proofs.Ytghlpolodjlgjaa.Sy
