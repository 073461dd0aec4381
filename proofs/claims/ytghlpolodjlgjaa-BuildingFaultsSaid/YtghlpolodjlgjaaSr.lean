/- The symbolic evaluator is sound: single operations, second part (own work). -/
import Derived.Test.YtghlpolodjlgjaaSq
namespace Go.Proofs.Ytghlpolodjlgjaa.Sy
open Go Go.RowKit
set_option linter.unusedVariables false
set_option linter.unusedSimpArgs false

section
variable {φ : Fr} {ν : Nat → Bool} {m : Map} {st : ASt} {a : Act} {w w' : World} {own : List (Nat × Bool)} {W : List Nat} {P : Program} {C : Ctx} {o : Oper} {e : Eff}
  {K : Act → World → Prop} {Q : Exit → Act → World → Prop}

theorem All2.right {α β : Type} {R : α → β → Prop} {S : β → Prop} (h : ∀ a b, R a b → S b) : ∀ {as : List α} {bs : List β}, All2 R as bs → ∀ b ∈ bs, S b
  | [], [], _, _, hb => by cases hb
  | _ :: _, _ :: _, hh, b, hb => by
    rcases List.mem_cons.1 hb with rfl | hb
    · exact h _ _ hh.1
    · exact All2.right h hh.2 b hb
  | [], _ :: _, hh, _, _ => hh.elim
  | _ :: _, [], hh, _, _ => hh.elim

theorem fillC_eq (cs : List Cell) (off : Nat) (xs : List Cell) : fillC cs off xs = cs.take off ++ xs ++ cs.drop (off + xs.length) := by
  simp [fillC, app_eq, len'_eq]

theorem splice_get {α : Type} (xs new : List α) (q p : Nat) (h : q + new.length ≤ xs.length) :
    (xs.take q ++ new ++ xs.drop (q + new.length))[p]? = if p < q then xs[p]? else if p < q + new.length then new[p - q]? else xs[p]? := by
  have hl : (xs.take q).length = q := by simp; omega
  by_cases h1 : p < q
  · rw [if_pos h1, List.append_assoc, List.getElem?_append_left (by omega), List.getElem?_take, if_pos h1]
  · rw [if_neg h1]
    by_cases h2 : p < q + new.length
    · rw [if_pos h2, List.getElem?_append_left (by simp; omega), List.getElem?_append_right (by omega), hl]
    · rw [if_neg h2, List.getElem?_append_right (by simp; omega), List.getElem?_drop]
      congr 1
      simp
      omega

theorem chunk_get {α : Type} (xs : List α) (a n j : Nat) : ((xs.drop a).take n)[j]? = if j < n then xs[a + j]? else none := by
  rw [List.getElem?_take]
  split
  · rw [List.getElem?_drop]
  · rfl

theorem chunk_apart {i j n r : Nat} (h : j ≠ i) (hr : r < n) : j * n + r < i * n ∨ i * n + n ≤ j * n + r := by
  rcases Nat.lt_or_gt_of_ne h with h1 | h1
  · left
    have := Nat.mul_le_mul_right n (show j + 1 ≤ i from h1)
    rw [Nat.succ_mul] at this
    omega
  · right
    have := Nat.mul_le_mul_right n (show i + 1 ≤ j from h1)
    rw [Nat.succ_mul] at this
    omega

theorem ok_store_elem {t : TypeId} {x y : Operand} (hop : o.op = .store t x y) {e0 ety : Ty} {k off : Nat} {i : Int} {T : TypeId} {l : List ety.den} {nx : ety.den} {d : TD} {v : SV} (hdst : o.dst = none)
    (hx : opndc st own none x = some (.velem e0 k i off)) (hD : C.D t = some d) (hv : opnd1 st own (tyOf C t) y = some v) (hbx : st.box k = some (.vec true T ety l))
    (hdec : dec ety (fillC (enc ety (nth ety l i)) off v.cells) = some nx) (h0 : e0.n = ety.n) (hvl : v.cells.length = d.ty.n) (hle : off + d.ty.n ≤ ety.n)
    (he : e = ⟨none, none, [(k, some (.vec true T ety (setE ety l i nx)))]⟩) (h : At P C φ ν own W st o e m a w K) : o.wp P a w K Q := by
  subst he
  have hT := h.ctx.D t d hD
  obtain ⟨b, p, hm, hp, hu, hi⟩ := opndc_ok h.sat h.tags hx
  obtain ⟨hpl, vs, cap, ⟨z, hh, hz⟩, hsz, hcap, hmax, hel⟩ := vec_live h.sat hbx hm hi
  rw [hpl, vlen_live] at hi
  have hnth : nth ety l i = l[i.toNat] := by unfold nth; rw [List.getD_eq_getElem?_getD, List.getElem?_eq_getElem hi]; rfl
  have hr := hel i.toNat hi
  have hcs := enc_ok (m := m) hr
  rw [← hnth] at hcs
  have him : i.toNat * ety.n + ety.n ≤ vs.size := by rw [hsz, ← Nat.succ_mul]; exact Nat.mul_le_mul_right _ (by omega)
  have hvc := SV.cells_ok (opnd1_ok h.sat h.tags hv)
  have hvcl := hvc.length
  have hone : ∀ u ∈ (a.eval y).cells.toList, u.oneCell' = true := hvc.right fun _ _ h => CR.one h
  simp only [Array.length_toList] at hvcl
  have hnl : (a.eval y).cells.toList.length = d.ty.n := by simp; omega
  let news := (a.eval y).cells.toList
  have hnl : news.length = d.ty.n := hnl
  let q := i.toNat * ety.n + off
  have hq : i.toNat * e0.n + off = q := by rw [h0]
  let vs' : Array Value := (vs.toList.take q ++ news ++ vs.toList.drop (q + news.length)).toArray
  have hrun : (execOp a.eval o).run P w = .ok .skip (w.setRow b vs') := by
    have := run_storeCells_row (P := P) b q T (a.eval y).cells.toList 0 vs w hh hz (by show q + 0 + news.length ≤ _; omega) hone
    simp only [execOp, hop, hu, Instr.storeAt, Instr.sureAddr, Sem.run_bind, Sem.run_pure, Result.andThen_ok, storeVar, run_sizeOf hT.info, hq]
    rw [if_neg (by rw [← hvcl, hvl]; simp)]
    rw [this]
    simp [vs', news]
  have hqe : q + news.length ≤ vs.toList.length := by simp; omega
  have hsize : vs'.size = vs.size := by simp [vs', List.length_append]; simp at hqe; omega
  -- the element
  have hnew : TR w (XA φ m) ety nx ((vs'.toList.drop (i.toNat * ety.n)).take ety.n) := by
    refine dec_ok (m := m) hdec ?_
    rw [fillC_eq]
    have h1 := All2.append (All2.append (All2.take off hcs) hvc) (All2.drop (off + v.cells.length) hcs)
    have : (vs'.toList.drop (i.toNat * ety.n)).take ety.n = (((vs.toList.drop (i.toNat * ety.n)).take ety.n).take off ++ news ++ ((vs.toList.drop (i.toNat * ety.n)).take ety.n).drop (off + v.cells.length)) := by
      apply List.ext_getElem?
      intro j
      have hcl : ((vs.toList.drop (i.toNat * ety.n)).take ety.n).length = ety.n := by simp; omega
      have e1 := splice_get ((vs.toList.drop (i.toNat * ety.n)).take ety.n) news off j (by omega)
      rw [show off + v.cells.length = off + news.length by omega, e1, chunk_get]
      simp only [vs', List.toList_toArray]
      rw [splice_get _ _ _ _ hqe]
      simp only [chunk_get]
      by_cases hj : j < ety.n
      · simp only [if_pos hj]
        by_cases h2 : j < off
        · rw [if_pos (by omega), if_pos h2]
        · by_cases h3 : j < off + news.length
          · rw [if_neg (by omega), if_pos (by omega), if_neg h2, if_pos h3]; congr 1; omega
          · rw [if_neg (by omega), if_neg (by omega), if_neg h2, if_neg h3]
      · simp only [if_neg hj]
        rw [if_neg (by omega), if_neg (by omega)]
    rw [this]
    exact h1
  unfold Oper.wp
  rw [hrun]
  show K (a.put o.dst undef) _
  rw [hdst]
  refine h.next _ _ ⟨m, h.sat.write (bx := .vec true T ety (setE ety l i nx)) hbx rfl hm (by omega) hh hsize (fun hk1 hk2 => ⟨b, p, hm, .inr (.inl ⟨by simp [setE]; omega, vs', cap, ⟨z, hk2, by rw [hsize]; exact hz⟩, by rw [hsize]; exact hsz, by simpa [setE] using hcap, hmax, fun j hj => ?_⟩)⟩) rfl own⟩
  have hj' : j < l.length := by simpa [setE] using hj
  by_cases hji : j = i.toNat
  · subst hji
    have : (setE ety l i nx)[i.toNat] = nx := by simp [setE]
    rw [this]
    exact hnew.mono hk1 noMore_refl _ _ _
  · have : (setE ety l i nx)[j] = l[j] := by simp [setE, List.getElem_set, Ne.symm hji]
    rw [this]
    have e2 : (vs'.toList.drop (j * ety.n)).take ety.n = (vs.toList.drop (j * ety.n)).take ety.n := by
      apply List.ext_getElem?
      intro r
      rw [chunk_get, chunk_get]
      split
      · rename_i hr2
        simp only [vs', List.toList_toArray]
        rw [splice_get _ _ _ _ hqe]
        rcases chunk_apart hji hr2 with h3 | h3
        · rw [if_pos (by omega)]
        · rw [if_neg (by omega), if_neg (by omega)]
      · rfl
    rw [e2]
    exact (hel j hj').mono hk1 noMore_refl _ _ _

theorem ok_store {t : TypeId} {x y : Operand} (hop : o.op = .store t x y) (h : At P C φ ν own W st o e m a w K) : o.wp P a w K Q := by
  have he := h.ev
  simp only [evOp, hop] at he
  split at he
  case h_4 => cases he
  case h_2 =>
    rename_i k off ety len i d v hx hD hv
    split at he
    case h_2 => cases he
    rename_i cs hbx
    split at he
    case h_2 => cases he
    rename_i xs hxs
    obtain ⟨h1, h2⟩ := cnd_some he
    obtain ⟨h1a, h1b⟩ := andd_true h1
    obtain ⟨h1b, h1c⟩ := andd_true h1b
    obtain ⟨h1c, h1d⟩ := andd_true h1c
    have h1a : d.ty.n = ety.n := beq_eq h1a
    have h1b : v.cells.length = d.ty.n := by rw [← len'_eq]; exact beq_eq h1b
    have h1c : xs.length = len * ety.n := by rw [← len'_eq]; exact beq_eq h1c
    have hle : off + len * ety.n ≤ cs.length := by have := Nat.le_of_ble_eq_true h1d; rwa [len'_eq] at this
    simp only [Option.some.injEq] at h2
    subst h2
    have hdst : o.dst = none ∧ opndc st own none x = some (.aelem k off ety len i) := by
      split at hx
      · cases hx
      · rename_i hn; exact ⟨hn, hx⟩
    have hT := h.ctx.D t d hD
    obtain ⟨b, hm, hu, hi0, hi⟩ := opndc_ok h.sat h.tags hdst.2
    obtain ⟨b', vs, T, hm', hu', hh, hcs⟩ := box_cells (off := 0) h.sat ⟨b, hm, rfl⟩ (.inl hbx)
    rw [hm] at hm'
    cases hm'
    have hlen := hcs.length
    have hvc := SV.cells_ok (opnd1_ok h.sat h.tags hv)
    have hvcl := hvc.length
    have hone : ∀ u ∈ (a.eval y).cells.toList, u.oneCell' = true := hvc.right fun _ _ h => CR.one h
    simp only [Array.length_toList] at hlen hvcl
    have him : i.toNat * ety.n + ety.n ≤ len * ety.n := by rw [← Nat.succ_mul]; exact Nat.mul_le_mul_right _ hi
    have hnl : (a.eval y).cells.toList.length = ety.n := by rw [Array.length_toList, ← hvcl, h1b, h1a]
    have hrun : (execOp a.eval o).run P w = .ok .skip (w.setRow b (vs.toList.take (off + i.toNat * ety.n) ++ (a.eval y).cells.toList ++ vs.toList.drop (off + i.toNat * ety.n + (a.eval y).cells.toList.length)).toArray) := by
      have := run_storeCells_at (P := P) b (off + i.toNat * ety.n) T (a.eval y).cells.toList 0 vs w hh (by rw [hnl]; omega) hone
      simp only [execOp, hop, hu, Instr.storeAt, Instr.sureAddr, Sem.run_bind, Sem.run_pure, Result.andThen_ok, storeVar, run_sizeOf hT.info]
      rw [if_neg (by rw [← hvcl, h1b]; simp)]
      rw [this]
      simp
    unfold Oper.wp
    rw [hrun]
    show K (a.put o.dst undef) _
    rw [hdst.1]
    have hmid : ((vs.toList.drop off).take (len * ety.n)).length = len * ety.n := by simp; omega
    refine h.next _ _ ⟨m, h.sat.store hbx hm hh ?_ ?_ own⟩
    · simp; omega
    · rw [fillC_eq]
      simp only [List.toList_toArray]
      have hp := putAt_ok hvc hnl hxs (All2.take (len * ety.n) (All2.drop off hcs)) hmid
      rw [putV_eq hi0 hmid (by omega) (by omega)] at hp
      simp only [Nat.sub_zero] at hp
      have heq : vs.toList.take (off + i.toNat * ety.n) ++ (a.eval y).cells.toList ++ vs.toList.drop (off + i.toNat * ety.n + (a.eval y).cells.toList.length) =
          vs.toList.take off ++ (((vs.toList.drop off).take (len * ety.n)).take (i.toNat * ety.n) ++ (a.eval y).cells.toList ++ ((vs.toList.drop off).take (len * ety.n)).drop (i.toNat * ety.n + ety.n)) ++ vs.toList.drop (off + len * ety.n) := by
        rw [hnl, List.take_take, Nat.min_eq_left (by omega), List.take_add, List.drop_take, List.drop_drop]
        have : vs.toList.drop (off + i.toNat * ety.n + ety.n) = (vs.toList.drop (off + (i.toNat * ety.n + ety.n))).take (len * ety.n - (i.toNat * ety.n + ety.n)) ++ vs.toList.drop (off + len * ety.n) := by
          have h5 := (List.take_append_drop (len * ety.n - (i.toNat * ety.n + ety.n)) (vs.toList.drop (off + (i.toNat * ety.n + ety.n)))).symm
          rw [List.drop_drop, show off + (i.toNat * ety.n + ety.n) + (len * ety.n - (i.toNat * ety.n + ety.n)) = off + len * ety.n by omega] at h5
          rw [← Nat.add_assoc] at h5 ⊢
          exact h5
        rw [this]
        simp only [List.append_assoc]
      rw [heq]
      refine All2.append (All2.append (All2.take _ hcs) hp) ?_
      rw [h1c]
      exact All2.drop _ hcs
  case h_3 =>
    rename_i e0 k i off d v hx hD hv
    split at he
    case h_2 => cases he
    rename_i T ety l hbx
    split at he
    case h_2 => cases he
    rename_i nx hdec
    obtain ⟨h1, h2⟩ := cnd_some he
    obtain ⟨h1a, h1b⟩ := andd_true h1
    obtain ⟨h1b, h1c⟩ := andd_true h1b
    simp only [Option.some.injEq] at h2
    have hdst : o.dst = none ∧ opndc st own none x = some (.velem e0 k i off) := by
      split at hx
      · cases hx
      · rename_i hn; exact ⟨hn, hx⟩
    exact ok_store_elem hop hdst.1 hdst.2 hD hv hbx hdec (beq_eq h1a) (by rw [← len'_eq]; exact beq_eq h1b) (Nat.le_of_ble_eq_true h1c) h2.symm h
  rename_i k off d v hx hD hv
  split at he
  case h_2 => cases he
  rename_i cs hbx
  have hdst : o.dst = none ∧ opndc st own none x = some (.box k off) := by
    split at hx
    · cases hx
    · rename_i hn; exact ⟨hn, hx⟩
  obtain ⟨h1, h2⟩ := cnd_some he
  obtain ⟨h1a, h1b⟩ := andd_true h1
  simp only [Option.some.injEq] at h2
  subst h2
  have hT := h.ctx.D t d hD
  have hle : off + d.ty.n ≤ cs.length := by have := Nat.le_of_ble_eq_true h1b; rwa [len'_eq] at this
  have hvl : v.cells.length = d.ty.n := by rw [← len'_eq]; exact beq_eq h1a
  obtain ⟨b, vs, T, hm, hu, hh, hcs⟩ := box_cells h.sat (opndc_ok h.sat h.tags hdst.2) (.inl hbx)
  have hlen := hcs.length
  have hvc := SV.cells_ok (opnd1_ok h.sat h.tags hv)
  have hvcl := hvc.length
  have hone : ∀ u ∈ (a.eval y).cells.toList, u.oneCell' = true := hvc.right fun _ _ h => CR.one h
  simp only [Array.length_toList] at hlen hvcl
  have hrun : (execOp a.eval o).run P w = .ok .skip (w.setRow b (vs.toList.take off ++ (a.eval y).cells.toList ++ vs.toList.drop (off + (a.eval y).cells.toList.length)).toArray) := by
    have := run_storeCells_at (P := P) b off T (a.eval y).cells.toList 0 vs w hh (by simp; omega) hone
    simp only [execOp, hop, hu, Instr.storeAt, Instr.sureAddr, Sem.run_bind, Sem.run_pure, Result.andThen_ok, storeVar, run_sizeOf hT.info]
    rw [if_neg (by rw [← hvcl, hvl]; simp)]
    rw [this]
    simp
  unfold Oper.wp
  rw [hrun]
  show K (a.put o.dst undef) _
  rw [hdst.1]
  refine h.next _ _ ⟨m, h.sat.store hbx hm hh ?_ ?_ own⟩
  · simp; omega
  · rw [fillC_eq]
    simp only [List.toList_toArray]
    refine All2.append (All2.append (All2.take _ hcs) hvc) ?_
    rw [show (a.eval y).cells.toList.length = v.cells.length from hvc.length.symm]
    exact All2.drop _ hcs

theorem ok_nilCheck {x : Operand} (hop : o.op = .nilCheck x) (h : At P C φ ν own W st o e m a w K) : o.wp P a w K Q := by
  have he := h.ev
  simp only [evOp, hop] at he
  split at he
  · rename_i k off hx
    have hc := opndc_ok h.sat h.tags hx
    obtain ⟨b, h1, hu⟩ := hc
    exact h.out0 he (v := a.eval x) (by simp [execOp, hop, hu]) ⟨b, h1, hu⟩
  · rename_i t l i off hx
    have hc := opndc_ok h.sat h.tags hx
    obtain ⟨b, o', hu, h2⟩ := hc
    exact h.out0 he (v := a.eval x) (by simp [execOp, hop, hu]) ⟨b, o', hu, h2⟩
  · rename_i t k i off hx
    have hc := opndc_ok h.sat h.tags hx
    obtain ⟨b, p, hm, hp, hu, h2⟩ := hc
    exact h.out0 he (v := a.eval x) (by simp [execOp, hop, hu]) ⟨b, p, hm, hp, hu, h2⟩
  · rename_i k off ety len i hx
    have hc := opndc_ok h.sat h.tags hx
    obtain ⟨b, hm, hu, h2⟩ := hc
    exact h.out0 he (v := a.eval x) (by simp [execOp, hop, hu]) ⟨b, hm, hu, h2⟩
  · rename_i f hx
    have hc : a.eval x = .func (.func f) #[] #[] := opndc_ok h.sat h.tags hx
    exact h.out0 he (v := a.eval x) (by simp [execOp, hop, hc]) hc
  · rename_i f ks hx
    have hc := opndc_ok h.sat h.tags hx
    obtain ⟨vs, hu, h2⟩ := hc
    exact h.out0 he (v := a.eval x) (by simp [execOp, hop, hu]) ⟨vs, hu, h2⟩
  · cases he

theorem intBin_ok {op : BinOp} {k : IntKind} {x y : Int} {p : Option Prop} {c : Cell} (h : intBin op k x y = some (p, c)) (hp : ∀ q, p = some q → q) (t : TypeId) :
    ∃ v, (binOp op t (.int k x) (.int k y)).run P w = .ok v w ∧ ∀ X, CR m X w c v := by
  unfold intBin at h
  split at h
  all_goals cases h
  all_goals first
    | (refine ⟨_, ?_, fun X => rfl⟩; simp [binOp, Op.intArith, Op.intBits, Op.intCmp]; done)
    | (have h0 := hp _ rfl; refine ⟨_, ?_, fun X => rfl⟩; simp [binOp, Op.intDiv, h0]; done)

theorem fltBin_ok {op : BinOp} {k : FloatKind} {x y : Nat} {p : Option Prop} {c : Cell} (h : fltBin op k x y = some (p, c)) (hp : ∀ q, p = some q → q) (t : TypeId) :
    ∃ v, (binOp op t (.float k x) (.float k y)).run P w = .ok v w ∧ ∀ X, CR m X w c v := by
  unfold fltBin at h
  split at h
  all_goals cases h
  all_goals first
    | (refine ⟨_, ?_, fun X => rfl⟩; simp [binOp, Op.floatCmp]; done)
    | (have h0 := hp _ rfl
       obtain ⟨r, hr⟩ := Option.isSome_iff_exists.1 h0
       refine ⟨_, ?_, fun X => rfl⟩
       simp [binOp, Op.floatArith, hr]
       done)

theorem strBin_ok {op : BinOp} {x y : ByteArray} {p : Option Prop} {c : Cell} (h : strBin op x y = some (p, c)) (hp : ∀ q, p = some q → q) (t : TypeId) :
    ∃ v, (binOp op t (.string x) (.string y)).run P w = .ok v w ∧ ∀ X, CR m X w c v := by
  unfold strBin at h
  split at h
  · cases h
    have h0 := hp _ rfl
    refine ⟨.string (x ++ y), ?_, fun X => rfl⟩
    have h1 : ¬ (((x.size + y.size : Nat) : Int) > IntKind.i64.max) := by
      show ¬ (((x.size + y.size : Nat) : Int) > 9223372036854775807)
      omega
    show (Op.stringOp .add x y).run P w = _
    unfold Op.stringOp
    simp only [if_neg h1]
    rfl
  · cases h
    exact ⟨_, rfl, fun X => rfl⟩
  · cases h
    exact ⟨_, rfl, fun X => rfl⟩
  · cases h

theorem eqGuard_easy {op : BinOp} {t : TypeId} {x y : Operand} {u v : Value} (h : (∃ k n, u = .int k n) ∨ (∃ k n, u = .float k n) ∨ ∃ b, u = .bool b) : (eqGuard op t x y u v).run P w = .ok () w := by
  unfold eqGuard
  rcases h with ⟨k, n, rfl⟩ | ⟨k, n, rfl⟩ | ⟨b, rfl⟩ <;> cases op <;> simp
theorem eqGuard_str {op : BinOp} {t : TypeId} {x y : Operand} {s : ByteArray} {v : Value} : (eqGuard op t x y (.string s) v).run P w = .ok () w := by
  unfold eqGuard
  cases op <;> simp

theorem eqGuard_agg {op : BinOp} {t : TypeId} {x y x' y' : Operand} {us vs : Array Value} : eqGuard op t x y (.agg us) (.agg vs) = eqGuard op t x' y' (.agg us) (.agg vs) := by
  unfold eqGuard; rfl

theorem run_bool_in {t : TypeId} (ht : P.underlying t = some .bool) (n : Nat) (a b : Bool) : (Op.equalIn (n + 1) t (.bool a) (.bool b)).run P w = .ok (a == b) w := by
  unfold Op.equalIn
  rw [Sem.run_bind, run_underlying ht]
  rfl
theorem run_bool_eq {t : TypeId} (ht : P.underlying t = some .bool) (a b : Bool) : (binOp .eql t (.bool a) (.bool b)).run P w = .ok (.bool (a == b)) w := by
  show (Op.equal t (.bool a) (.bool b) >>= fun r => pure (Value.bool r)).run P w = _
  rw [Sem.run_bind, show Op.equal t (.bool a) (.bool b) = Op.equalIn (9999 + 1) t (.bool a) (.bool b) from rfl, run_bool_in ht]
  rfl
theorem run_bool_ne {t : TypeId} (ht : P.underlying t = some .bool) (a b : Bool) : (binOp .neq t (.bool a) (.bool b)).run P w = .ok (.bool (a != b)) w := by
  show (Op.equal t (.bool a) (.bool b) >>= fun r => pure (Value.bool !r)).run P w = _
  rw [Sem.run_bind, show Op.equal t (.bool a) (.bool b) = Op.equalIn (9999 + 1) t (.bool a) (.bool b) from rfl, run_bool_in ht]
  rfl

theorem ok_binOp {op : BinOp} {t yt : TypeId} {x y : Operand} (hop : o.op = .binOp op t x y yt) (h : At P C φ ν own W st o e m a w K) : o.wp P a w K Q := by
  have he := h.ev
  simp only [evOp, hop] at he
  split at he
  case h_2 => cases he
  rename_i sa sb hx hy
  split at he
  case h_2 => cases he
  rename_i p v hbin
  have hX := opnd1_ok h.sat h.tags hx
  have hY := opnd1_ok h.sat h.tags hy
  have hp : ∀ q, p = some q → q := by
    obtain ⟨d, hd, rfl⟩ := outE_spec he
    exact fun q hq => h.need q hq
  have main : ∀ u, (eqGuard op t x y (a.eval x) (a.eval y) >>= fun _ => binOp op t (a.eval x) (a.eval y)).run P w = .ok u w → SR m (XA φ m) w v u → o.wp P a w K Q := by
    intro u hu hv
    refine h.out0 he (v := u) ?_ hv
    simp only [execOp, hop]
    rw [Sem.run_bind, hu]
    rfl
  clear he hx hy
  unfold bin at hbin
  split at hbin
  · rename_i k i k' j
    simp only [SR, CR] at hX hY
    rw [hX, hY] at main
    split at hbin
    · cases hbin
      have h0 := hp _ rfl
      refine main _ ?_ (show Value.int k _ = _ from rfl)
      rw [Sem.run_bind, eqGuard_easy (.inl ⟨_, _, rfl⟩)]
      simp [binOp, Op.shift, show ¬ j < 0 by omega]
    · cases hbin
      have h0 := hp _ rfl
      refine main _ ?_ (show Value.int k _ = _ from rfl)
      rw [Sem.run_bind, eqGuard_easy (.inl ⟨_, _, rfl⟩)]
      simp [binOp, Op.shift, show ¬ j < 0 by omega]
    · obtain ⟨hk, hbin2⟩ := cnd_some hbin
      clear hbin
      have hbin := hbin2
      clear hbin2
      have hk := keq_eq hk
      subst hk
      split at hbin
      · rename_i p' c hint
        cases hbin
        obtain ⟨u, hu, hc⟩ := intBin_ok (P := P) (w := w) (m := m) hint hp t
        refine main u ?_ (hc _)
        rw [Sem.run_bind, eqGuard_easy (.inl ⟨_, _, rfl⟩)]
        exact hu
      · cases hbin
  · rename_i k i k' j
    simp only [SR, CR] at hX hY
    rw [hX, hY] at main
    obtain ⟨hk, hbin2⟩ := cnd_some hbin
    clear hbin
    have hbin := hbin2
    clear hbin2
    have hk := feq_eq hk
    subst hk
    split at hbin
    · rename_i p' c hflt
      cases hbin
      obtain ⟨u, hu, hc⟩ := fltBin_ok (P := P) (w := w) (m := m) hflt hp t
      refine main u ?_ (hc _)
      rw [Sem.run_bind, eqGuard_easy (.inr (.inl ⟨_, _, rfl⟩))]
      exact hu
    · cases hbin
  · rename_i s1 s2
    simp only [SR, CR] at hX hY
    rw [hX, hY] at main
    split at hbin
    · rename_i p' c hstr
      cases hbin
      obtain ⟨u, hu, hc⟩ := strBin_ok (P := P) (w := w) (m := m) hstr hp t
      refine main u ?_ (hc _)
      rw [Sem.run_bind, eqGuard_str]
      exact hu
    · cases hbin
  · rename_i i j
    simp only [SR, CR] at hX hY
    rw [hX, hY] at main
    split at hbin
    case h_2 => cases hbin
    rename_i d hD
    split at hbin
    case h_2 => cases hbin
    rename_i hag hty
    obtain ⟨de, hde, _, hpl⟩ := (h.ctx.D t d hD).desc
    have hpl := hpl hag
    rw [hty] at hpl
    simp only [plainOk] at hpl
    subst hpl
    split at hbin
    · cases hbin
      refine main _ ?_ (show Value.bool _ = _ from rfl)
      rw [Sem.run_bind, eqGuard_easy (.inr (.inr ⟨_, rfl⟩))]
      exact run_bool_eq hde _ _
    · cases hbin
      refine main _ ?_ (show Value.bool _ = _ from rfl)
      rw [Sem.run_bind, eqGuard_easy (.inr (.inr ⟨_, rfl⟩))]
      exact run_bool_ne hde _ _
    · cases hbin
  · rename_i xs ys
    obtain ⟨us, hu, hus⟩ := hX
    obtain ⟨vs, hv, hvs⟩ := hY
    rw [hu, hv] at main
    split at hbin
    case h_2 => cases hbin
    rename_i d hD
    obtain ⟨hc, hbin2⟩ := cnd_some hbin
    clear hbin
    have hbin := hbin2
    clear hbin2
    obtain ⟨h1, h2⟩ := andd_true hc
    obtain ⟨h2, h3⟩ := andd_true h2
    have l1 : xs.length = d.ty.n := by rw [← len'_eq]; exact beq_eq h2
    have l2 : ys.length = d.ty.n := by rw [← len'_eq]; exact beq_eq h3
    split at hbin
    · rename_i r hr
      cases hbin
      refine main _ ?_ (show Value.bool _ = _ from rfl)
      rw [eqGuard_agg (x' := .tmp 0) (y' := .tmp 0)]
      simpa using (h.ctx.eq t d hD h1 m _ w xs ys r us.toList vs.toList hr hus hvs l1 l2).1
    · rename_i r hr
      cases hbin
      refine main _ ?_ (show Value.bool _ = _ from rfl)
      rw [eqGuard_agg (x' := .tmp 0) (y' := .tmp 0)]
      simpa using (h.ctx.eq t d hD h1 m _ w xs ys r us.toList vs.toList hr hus hvs l1 l2).2
    · cases hbin
  · cases hbin
end
end Go.Proofs.Ytghlpolodjlgjaa.Sy
