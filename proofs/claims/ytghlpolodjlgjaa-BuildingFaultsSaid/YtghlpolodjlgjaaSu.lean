/- The symbolic evaluator is sound: slices that are built, arrays, builtins, calls; every operation (own work). -/
import Derived.Test.YtghlpolodjlgjaaSm
import Derived.Laws.BytesString
import Derived.Lib.ConvBytes
namespace Go.Proofs.Ytghlpolodjlgjaa.Sy
open Go Go.RowKit
set_option linter.unusedVariables false
set_option linter.unusedSimpArgs false

section
variable {φ : Fr} {ν : Nat → Bool} {m : Map} {st : ASt} {a : Act} {w w' : World} {own : List (Nat × Bool)} {W : List Nat} {P : Program} {C : Ctx} {o : Oper} {e : Eff}
  {K : Act → World → Prop} {Q : Exit → Act → World → Prop}

theorem ok_buildSlice {t : TypeId} {len : Nat} {parts : Array (Nat × Operand)} (hop : o.op = .buildSlice t len parts) (h : At P C φ ν own W st o e m a w K) : o.wp P a w K Q := by
  have he := h.ev
  simp only [evOp, hop] at he
  split at he
  case h_2 => cases he
  rename_i d hD
  split at he
  case h_2 => cases he
  rename_i el ety hk hty
  split at he
  case h_2 => cases he
  rename_i cs hfill
  split at he
  case h_2 => cases he
  rename_i l de hl hDe
  obtain ⟨hc, he2⟩ := cnd_some he
  obtain ⟨hc1, hc2⟩ := andd_true hc
  obtain ⟨hc2, hc3⟩ := andd_true hc2
  have hc1 : de.ty.n = ety.n := beq_eq hc1
  have hc2 : len * ety.n ≤ 16777216 := Nat.le_of_ble_eq_true hc2
  have hc3 : 1 ≤ len * ety.n := Nat.le_of_ble_eq_true hc3
  have hn0 : 0 < ety.n := Nat.pos_of_ne_zero fun h0 => by rw [h0] at hc3; simp at hc3
  obtain ⟨e0, hde, hkd, _⟩ := (h.ctx.D t d hD).desc
  unfold kindOk at hkd
  rw [hk] at hkd
  obtain ⟨_, rfl, t', ag, hty', hinfo⟩ := hkd
  rw [hty] at hty'
  cases hty'
  have hTe := h.ctx.D el de hDe
  obtain ⟨i, hi1, hi2, hi3⟩ := hinfo.info
  obtain ⟨j, hj1, hj2, hj3⟩ := hTe.info.info
  rw [hi1] at hj1
  cases hj1
  -- the zero cells
  have hz := zeroV_cells (m := m) (w := w) (X := XA φ m) hTe.one
  have hzl : (mkV de.agg (zeroVs de.ty)).cells.size = ety.n := by have := hz.length; rw [zero_len, hc1] at this; simpa using this.symm
  have hzeq : ∀ z : Array Value, z = (mkV de.agg (zeroVs de.ty)).cells → CRs m (XA φ m) w (zeroCells ety) z.toList := by
    intro z hzz
    subst hzz
    have e1 : mkV ag (zeroVs ety) = mkV de.agg (zeroVs de.ty) := by rw [hi3] at hj3; exact Option.some.inj hj3
    rw [← e1]
    have hag : ag = false → ety.n = 1 := by
      intro hf
      rw [← e1] at hzl
      have : (mkV ag (zeroVs ety)).cells.size = 1 ∨ ∃ vs, mkV ag (zeroVs ety) = .agg vs := by
        cases hm : mkV ag (zeroVs ety) <;> first | exact .inl rfl | exact .inr ⟨_, rfl⟩
      rcases this with h1 | ⟨vs, h1⟩
      · omega
      · subst hf
        simp only [mkV, Bool.false_eq_true, if_false] at h1
        have hzz : CRs m (XA φ m) w (zeroCells ety) (zeroVs ety) := zero_ok ety
        cases hzv : zeroVs ety with
        | nil => rw [hzv] at h1; cases h1
        | cons v r =>
          rw [hzv] at h1 hzz
          simp only [List.headD_cons] at h1
          match hzc : zeroCells ety, hzz with
          | c :: cs, hzz => have := CR.one hzz.1; rw [h1] at this; cases this
    exact zeroV_cells (d := { kind := .prim, ty := ety, agg := ag, bytes := 0, eq := false }) hag
  let z := (mkV de.agg (zeroVs de.ty)).cells
  have hzc := hzeq z rfl
  have hr := zero_range z (by show 0 < (mkV de.agg (zeroVs de.ty)).cells.size; omega) len
  have hzs : z.size = ety.n := hzl
  rw [hzs] at hr
  have hz0 : CRs m (XA φ m) w (repC (zeroCells ety) len) ((Array.range (len * ety.n)).map (z[· % z.size]!)).toList := by
    rw [hzs, hr]; exact repC_ok hzc len
  obtain ⟨vs', h1, h2⟩ := fillP_ok (pl := fun x => some (x * ety.n, ety.n)) h.ctx h.sat h.tags (fun i tid off d' hp hd' => by
      simp only [Option.some.injEq, Prod.mk.injEq] at hp
      obtain ⟨rfl, rfl⟩ := hp
      rw [hDe] at hd'
      cases hd'
      rw [hc1]; rfl) parts.toList _ cs _ hfill hz0
  obtain ⟨hll, hvl, hel⟩ := decAll_ok hl h2
  have hrun : (execOp a.eval o).run P w = .ok (.value (.slice (some ⟨w.heap.size, 0, none⟩) len len)) (w.alloc (.cells vs' el)) := by
    have hze : (zeroValue el).run P w = .ok (mkV de.agg (zeroVs de.ty)) w := run_zeroValue hTe.info
    simp only [execOp, hop, Instr.buildSlice, Sem.run_bind, run_underlying hde, Result.andThen_ok, run_sizeOf hinfo]
    rw [if_neg (by omega), if_neg (by omega)]
    simp only [Sem.run_bind, Sem.run_pure, Result.andThen_ok, hze]
    have : Instr.fill (fun i => some (i * ety.n, ety.n)) ((Array.range (len * ety.n)).map (z[· % z.size]!)) (parts.map fun (i, x) => (i, a.eval x)).toList = some vs' := by
      rw [← h1]; simp
    rw [this]
    simp [newRow]
  have hbel : Below w.heap.size w (w.alloc (.cells vs' el)) := (Below.refl _ _).alloc (Nat.le_refl _) _
  have hsz : vs'.size = len * ety.n := by simpa using hvl
  refine h.out he2 hrun hbel ⟨.inr ⟨⟨w.heap.size, 0, none⟩, len, by rw [hll], by omega, ?_, fun _ => rfl, ?_, ?_⟩, .inr ⟨?_, w.heap.size, el, by rw [hll], ?_⟩⟩
  · have : len ≤ len * ety.n := Nat.le_mul_of_pos_right _ hn0
    unfold maxLen; omega
  · intro i hi
    have hnew : (w.alloc (.cells vs' el)).heap[w.heap.size]? = some (.cells vs' el) := by unfold World.alloc; simp only [Array.getElem?_push_size]
    have him : i * ety.n + ety.n ≤ len * ety.n := by rw [← Nat.succ_mul]; exact Nat.mul_le_mul_right _ (by omega)
    refine ⟨(vs'.toList.drop (i * ety.n)).take ety.n, by simp; omega, fun j hj => ?_, (hel i hi).mono (keeps_of_below hbel) noMore_refl _ _ _⟩
    rw [cell_heap hnew]
    simp only [Nat.zero_add]
    rw [List.getD_eq_getElem?_getD, List.getElem?_take, if_pos hj, List.getElem?_drop, Array.getElem?_toList, Array.getElem?_eq_getElem (by omega)]
    rfl
  · intro p _ _ hX
    exact absurd (live_lt h.sat hX) (by simp)
  · intro h0
    rw [h0] at hll
    have : len = 0 := hll.symm
    rw [this] at hc3
    simp at hc3
  · unfold World.shape?
    have hnew : (w.alloc (.cells vs' el)).heap[w.heap.size]? = some (.cells vs' el) := by unfold World.alloc; simp only [Array.getElem?_push_size]
    rw [hnew]
    simp [hsz, hll]

theorem ok_index {t : TypeId} {x i : Operand} (hop : o.op = .index t x i) (h : At P C φ ν own W st o e m a w K) : o.wp P a w K Q := by
  have he := h.ev
  simp only [evOp, hop] at he
  split at he
  case h_3 => cases he
  case h_1 =>
    rename_i d s k n hD hx hi
    split at he
    case h_2 => cases he
    rename_i hk hag hty
    obtain ⟨h0, h1⟩ := h.need' he
    have hi' : a.eval i = .int k n := opndc_ok h.sat h.tags hi
    have hu : a.eval x = .string s := opnd1_ok h.sat h.tags hx
    obtain ⟨e0, hde, _, hpl⟩ := (h.ctx.D t d hD).desc
    have hpl := hpl hag
    rw [hty] at hpl
    simp only [plainOk] at hpl
    subst hpl
    refine h.out0 he (v := .int .u8 (strAt s n)) ?_ rfl
    simp only [execOp, hop, hu, hi', Instr.index, Sem.run_bind, run_underlying hde, Result.andThen_ok, asIntOf, Sem.run_pure]
    have hlt : n.toNat < s.size := by omega
    have hsome : s[n.toNat]? = some (s[n.toNat]'hlt) := by exact getElem?_pos s n.toNat hlt
    rw [if_pos h0, hsome]
    have : ((s[n.toNat]'hlt).toNat : Int) = strAt s n := by
      unfold strAt
      congr 2
      rw [Array.getD_eq_getD_getElem?, Array.getElem?_eq_getElem (show n.toNat < s.data.size from hlt)]
      rfl
    simp [this]
  rename_i d cs k n hD hx hi
  split at he
  case h_2 => cases he
  rename_i len el hk
  split at he
  case h_2 => cases he
  rename_i de hDe
  split at he
  case h_2 => cases he
  rename_i l hl
  split at he
  case h_2 => cases he
  rename_i v hv
  have hin := h.need' he
  have hi' : a.eval i = .int k n := opndc_ok h.sat h.tags hi
  obtain ⟨us, hu, hus⟩ := opnd1_ok h.sat h.tags hx
  obtain ⟨e0, hde, hkd, _⟩ := (h.ctx.D t d hD).desc
  unfold kindOk at hkd
  rw [hk] at hkd
  obtain ⟨_, rfl⟩ := hkd
  obtain ⟨hll, hvl, hel⟩ := decAll_ok hl hus
  have hni : n.toNat < l.length := by omega
  have hnth : nth de.ty l n = l[n.toNat] := by unfold nth; rw [List.getD_eq_getElem?_getD, List.getElem?_eq_getElem hni]; rfl
  have hcs := enc_ok (m := m) (hel n.toNat hni)
  rw [← hnth] at hcs
  have him : n.toNat * de.ty.n + de.ty.n ≤ len * de.ty.n := by rw [← Nat.succ_mul]; exact Nat.mul_le_mul_right _ (by omega)
  refine h.out0 he (v := mkV de.agg ((us.toList.drop (n.toNat * de.ty.n)).take de.ty.n)) ?_ (mkSV_ok hv hcs)
  simp only [execOp, hop, hu, hi', Instr.index, Sem.run_bind, run_underlying hde, Result.andThen_ok, asIntOf, Sem.run_pure]
  rw [if_pos hin]
  simp only [Sem.run_bind, run_sizeOf (h.ctx.D el de hDe).info, Result.andThen_ok]
  rw [run_part (h.ctx.D el de hDe) (by simp at hvl; omega)]
  rfl

/-! ### Calls -/
theorem allSV_ok (hs : SatM φ ν m st a w) (ht : holdsTags ν own) : ∀ {tys : List (Option Ty)} {xs : List Operand} {vs : List SV}, allSV st own tys xs = some vs → All2 (SR m (XA φ m) w) vs (xs.map a.eval)
  | _, [], vs, h => by simp only [allSV, Option.some.injEq] at h; subst h; trivial
  | tys, x :: xs, vs, h => by
    simp only [allSV] at h
    split at h
    case h_2 => cases h
    rename_i s l h1 h2
    simp only [Option.some.injEq] at h
    subst h
    exact ⟨opnd1_ok hs ht h1, allSV_ok hs ht h2⟩

def SRg (R : Cell → Value → Prop) : SV → Value → Prop
  | .one c, v => R c v
  | .agg cs, v => ∃ vs, v = .agg vs ∧ All2 R cs vs.toList

theorem shapes_rel {R : Cell → Value → Prop} : ∀ {sh : List (Option Nat)} {xs : List SV} {cs : List Cell} {vs : List Value}, shapes sh xs = some cs → All2 (SRg R) xs vs → ∃ cv, ShapeR sh vs cv ∧ All2 R cs cv
  | [], [], cs, vs, h, ha => by
    simp only [shapes, Option.some.injEq] at h
    subst h
    match vs, ha with | [], _ => exact ⟨[], rfl, trivial⟩
  | none :: sh, .one c :: xs, cs, vs, h, ha => by
    simp only [shapes, Option.map_eq_some_iff] at h
    obtain ⟨r, h1, rfl⟩ := h
    match vs, ha with
    | v :: vs, ha =>
      obtain ⟨cv, h2, h3⟩ := shapes_rel h1 ha.2
      exact ⟨v :: cv, ⟨cv, rfl, h2⟩, ha.1, h3⟩
  | some n :: sh, .agg ds :: xs, cs, vs, h, ha => by
    simp only [shapes] at h
    obtain ⟨hb, h⟩ := cnd_some h
    rw [Option.map_eq_some_iff] at h
    obtain ⟨r, h1, rfl⟩ := h
    match vs, ha with
    | v :: vs, ha =>
      obtain ⟨us, rfl, hus⟩ := ha.1
      obtain ⟨cv, h2, h3⟩ := shapes_rel h1 ha.2
      have hn := beq_eq hb
      rw [len'_eq] at hn
      exact ⟨us.toList ++ cv, ⟨us.toList, cv, by simp, by rw [← hn]; exact hus.length.symm, rfl, h2⟩, by rw [app_eq]; exact All2.append hus h3⟩
  | [], _ :: _, _, _, h, _ => by simp [shapes] at h
  | none :: _, [], _, _, h, _ => by simp [shapes] at h
  | some _ :: _, [], _, _, h, _ => by simp [shapes] at h
  | none :: _, .agg _ :: _, _, _, h, _ => by simp [shapes] at h
  | some _ :: _, .one _ :: _, _, _, h, _ => by simp [shapes] at h

theorem shapes_ok {X : Nat → Nat → Prop} {sh : List (Option Nat)} {xs : List SV} {cs : List Cell} {vs : List Value} (h : shapes sh xs = some cs) (ha : All2 (SR m X w) xs vs) : ∃ cv, ShapeR sh vs cv ∧ CRs m X w cs cv :=
  shapes_rel (R := CR m X w) h (ha.mono fun x v hx => by cases x <;> exact hx)

theorem unshape_ok {X : Nat → Nat → Prop} : ∀ {sh : List (Option Nat)} {xs : List SV} {cs : List Cell} {vs cv : List Value}, unshape sh cs = some xs → ShapeR sh vs cv → CRs m X w cs cv → All2 (SR m X w) xs vs
  | [], xs, [], vs, cv, h, hs, hc => by
    simp only [unshape, Option.some.injEq] at h
    subst h
    match vs, hs with | [], _ => trivial
  | none :: sh, xs, c :: cs, vs, cv, h, hs, hc => by
    simp only [unshape, Option.map_eq_some_iff] at h
    obtain ⟨r, h1, rfl⟩ := h
    match vs, hs with
    | v :: vs, hs =>
      obtain ⟨cv', rfl, h2⟩ := hs
      exact ⟨hc.1, unshape_ok h1 h2 hc.2⟩
  | some n :: sh, xs, cs, vs, cv, h, hs, hc => by
    simp only [unshape, Option.map_eq_some_iff] at h
    obtain ⟨r, h1, rfl⟩ := h
    match vs, hs with
    | v :: vs, hs =>
      obtain ⟨ds, cv', rfl, hl, rfl, h2⟩ := hs
      have h3 := All2.take n hc
      have h4 := All2.drop n hc
      rw [show (ds ++ cv').take n = ds by rw [← hl]; simp] at h3
      rw [show (ds ++ cv').drop n = cv' by rw [← hl]; simp] at h4
      exact ⟨⟨_, rfl, by simpa [CRs] using h3⟩, unshape_ok h1 h2 h4⟩
  | [], _, _ :: _, _, _, h, _, _ => by simp [unshape] at h
  | none :: _, _, [], _, _, h, _, _ => by simp [unshape] at h

def ShapeV (rsh : Rsh) (cs : List Value) (v : Value) : Prop :=
  match rsh with
    | .none => v = .tuple #[]
    | .one s => ShapeR [s] [v] cs
    | .tup ss => ∃ vs : List Value, v = .tuple vs.toArray ∧ ShapeR ss vs cs

theorem mkRes_ok {X : Nat → Nat → Prop} {rsh : Rsh} {cs : List Cell} {cv : List Value} {tv : TV} {v : Value} (h : mkRes rsh cs = some tv) (hc : CRs m X w cs cv) (h2 : ShapeV rsh cv v) : VR m X w tv v := by
  cases rsh with
  | none => simp only [mkRes, Option.some.injEq] at h; subst h; exact ⟨#[], h2, trivial⟩
  | one s =>
    simp only [mkRes] at h
    split at h
    case h_2 => cases h
    rename_i x hx
    simp only [Option.some.injEq] at h
    subst h
    exact (unshape_ok hx h2 hc).1
  | tup ss =>
    simp only [mkRes, Option.map_eq_some_iff] at h
    obtain ⟨xs, hx, rfl⟩ := h
    obtain ⟨vs, rfl, h3⟩ := h2
    exact ⟨_, rfl, by simpa using unshape_ok hx h3 hc⟩

theorem run_callF {f : FuncId} {fn : Func} (hf : P.funcs[f]? = some fn) (hn : (fn.name == "runtime.NumGoroutine") = false) (hb : fn.body.isNone = false) (args : Array Value) :
    (callFunc f args).run P w = .ok (.enter f args) w := by
  unfold callFunc
  simp only [Sem.run_bind]
  have hp : (program).run P w = .ok P w := rfl
  rw [hp]
  simp only [Result.andThen_ok, hf, hn, hb, Bool.false_eq_true, if_false]
  rfl

theorem ok_min_int (ts : Array TypeId) (t : TypeId) (k k' : IntKind) (x y : Int) : (Builtin.min_ ts t #[.int k x, .int k' y]).run P w = .ok (.int k (min x y)) w := by
  have : min x y = if y < x then y else x := by
    split <;> omega
  rw [this]
  simp [Builtin.min_, Builtin.min2]
theorem ok_max_int (ts : Array TypeId) (t : TypeId) (k k' : IntKind) (x y : Int) : (Builtin.max_ ts t #[.int k x, .int k' y]).run P w = .ok (.int k (max x y)) w := by
  have : max x y = if y > x then y else x := by
    split <;> omega
  rw [this]
  simp [Builtin.max_, Builtin.max2]

theorem ok_max_int3 (ts : Array TypeId) (t : TypeId) (k k' k'' : IntKind) (x y z : Int) : (Builtin.max_ ts t #[.int k x, .int k' y, .int k'' z]).run P w = .ok (.int k (max (max x y) z)) w := by
  have e1 : max x y = if y > x then y else x := by
    split <;> omega
  have e2 : ∀ q : Int, max q z = if z > q then z else q := by
    intro q; split <;> omega
  rw [e1, e2]
  simp [Builtin.max_, Builtin.max2]

theorem run_len_sl {ts : Array TypeId} {t ty el : TypeId} (h0 : ts[0]? = some t) (hu : P.underlying t = some (.slice el)) (b : Option Addr) (n c : Nat) :
    (Builtin.len_ ts ty #[.slice b n c]).run P w = .ok (.int .i64 (n : Int)) w := by
  unfold Builtin.len_
  simp [h0, run_underlying hu, goInt]
theorem run_len_str {ts : Array TypeId} {t ty : TypeId} (h0 : ts[0]? = some t) (hu : P.underlying t = some .string) (s : ByteArray) :
    (Builtin.len_ ts ty #[.string s]).run P w = .ok (.int .i64 (s.size : Int)) w := by
  unfold Builtin.len_
  simp [h0, run_underlying hu, goInt]

/-! What is known of a result that lies in a new block. -/
def FreshC (n0 : Nat) (T : TypeId) (X : Nat → Nat → Prop) (w : World) (c : Cell) (v : Value) : Prop :=
  match c with
  | .int k n => v = .int k n | .bool b => v = .bool b | .flt k n => v = .float k n | .str s => v = .string s | .fn f => v = fnV f
  | .lst e _ l => (v = .slice none 0 0 ∧ l = []) ∨ (∃ b cap us, v = .slice (some ⟨b, 0, none⟩) l.length cap ∧ n0 ≤ b ∧ RowBlk w b us (unB T) ∧ us.size = cap * e.n ∧ l.length ≤ cap ∧ cap ≤ maxLen ∧ RowsC w e.n (TR w X e) l b 0) ∨
      (Nat.ble big T = true ∧ ∃ b cap T', v = .slice (some ⟨b, 0, none⟩) l.length cap ∧ w.shape? b = some (T', l.length * e.n) ∧ l.length * e.n = cap * e.n ∧ l.length ≤ cap ∧ cap ≤ maxLen ∧ RowsOk w X e.n (TR w X e) l b 0)
  | _ => False

theorem enc_fresh {X : Nat → Nat → Prop} {n0 : Nat} {T : TypeId} : ∀ {t : Ty} {x : t.den} {vs : List Value}, TR w X t x vs → All2 (FreshV n0 T w) (enc t x) vs → All2 (FreshC n0 T X w) (enc t x) vs := by
  intro t
  induction t with
  | pair a b iha ihb =>
    intro x vs h hf
    obtain ⟨v1, v2, rfl, h1, h2⟩ := h
    simp only [enc, app_eq] at hf ⊢
    obtain ⟨b1, b2, h3, h4, h5⟩ := All2.split hf
    have hl1 : v1.length = b1.length := by rw [h1.len, ← h4.length, enc_len]
    obtain ⟨rfl, rfl⟩ := List.append_inj h3 hl1
    exact All2.append (iha h1 h4) (ihb h2 h5)
  | sl e ih =>
    intro l vs h hf
    obtain ⟨v, rfl, h1⟩ := h
    refine ⟨?_, trivial⟩
    rcases h1 with ⟨h2, h3⟩ | ⟨ad, cap, h2, h3, h4, h5, h6⟩
    · exact .inl ⟨h3, h2⟩
    · rcases hf.1 with h7 | ⟨b, n, cap', us, h7, h8, h9, h10, h11⟩ | ⟨hB, b, n, cap9, T', h7, h8, h9⟩
      · rw [h7] at h2; cases h2
      · rw [h2] at h7
        cases h7
        exact .inr (.inl ⟨b, _, us, h2, h8, h9, h10, h3, h4, h6.1⟩)
      · rw [h2] at h7
        cases h7
        exact .inr (.inr ⟨hB, b, _, T', h2, h8, h9, h3, h4, h6⟩)
  | unit => intro x vs h _; cases h; trivial
  | _ => intro x vs h _; cases h; exact ⟨rfl, trivial⟩

theorem FreshC.plain {n0 : Nat} {T : TypeId} {X X' : Nat → Nat → Prop} {c : Cell} {v : Value} (h : FreshC n0 T X w c v) (hn : ∀ e tl l, c ≠ .lst e tl l) : CR m X' w c v := by
  cases c with
  | lst e tl l => exact absurd rfl (hn e tl l)
  | int k n => exact h
  | bool b => exact h
  | flt k n => exact h
  | str s => exact h
  | fn f => exact h
  | _ => exact h.elim

theorem fresh_rest {n0 : Nat} {T : TypeId} {X X' : Nat → Nat → Prop} : ∀ {cs : List Cell} {vs : List Value}, All2 (FreshC n0 T X w) cs vs → lsts cs = 0 → CRs m X' w cs vs
  | [], [], _, _ => trivial
  | [], _ :: _, h, _ => h.elim
  | _ :: _, [], h, _ => h.elim
  | c :: cs, v :: vs, h, hl => by
    have hc : ∀ e tl l, c ≠ .lst e tl l := by intro e tl l he; subst he; simp [lsts] at hl
    have hr : lsts cs = 0 := by cases c <;> simp_all [lsts]
    exact ⟨h.1.plain hc, fresh_rest h.2 hr⟩

theorem fresh_split {n0 : Nat} {T : TypeId} {X : Nat → Nat → Prop} {d : Nat} : ∀ {cs : List Cell} {vs : List Value} {e : Ty} {l : List e.den}, All2 (FreshC n0 T X w) cs vs → lsts cs = 1 → lst1 cs = some ⟨e, l⟩ →
    ∃ v tl, FreshC n0 T X w (.lst e tl l) v ∧ ∀ (m' : Map) (X' : Nat → Nat → Prop), CR m' X' w (.vref e d) v → CRs m' X' w (frCells d cs) vs
  | [], vs, e, l, _, hl, _ => by simp [lsts] at hl
  | _ :: _, [], _, _, h, _, _ => h.elim
  | c :: cs, v :: vs, e, l, h, hl, h1 => by
    by_cases hc : ∃ e' tl' l', c = .lst e' tl' l'
    · obtain ⟨e', tl', l', rfl⟩ := hc
      simp only [lst1, Option.some.injEq, Sigma.mk.injEq] at h1
      obtain ⟨rfl, h1⟩ := h1
      cases h1
      have hr : lsts cs = 0 := by simpa [lsts] using hl
      exact ⟨v, tl', h.1, fun m' X' hv => ⟨hv, fresh_rest h.2 hr⟩⟩
    · have hc : ∀ e tl l, c ≠ .lst e tl l := fun e tl l he => hc ⟨e, tl, l, he⟩
      have hr : lsts cs = 1 ∧ lst1 cs = some ⟨e, l⟩ ∧ frCells d (c :: cs) = c :: frCells d cs := by
        cases c with
        | lst e' tl' l' => exact absurd rfl (hc e' tl' l')
        | _ => exact ⟨hl, h1, rfl⟩
      obtain ⟨v', tl', h2, h3⟩ := fresh_split (d := d) h.2 hr.1 hr.2.1
      refine ⟨v', tl', h2, fun m' X' hv => ?_⟩
      rw [hr.2.2]
      exact ⟨h.1.plain hc, h3 m' X' hv⟩

/-! ### Pointers to boxes as arguments -/
theorem nodupN_spec : ∀ {l : List Nat}, nodupN l = true → l.Nodup
  | [], _ => List.nodup_nil
  | x :: r, h => by
    obtain ⟨h1, h2⟩ := andd_true h
    refine List.nodup_cons.2 ⟨fun hx => ?_, nodupN_spec h2⟩
    have := nott_true h1
    rw [mem_spec.2 hx] at this
    cases this
theorem lenL_eq {α : Type} (l : List α) : lenL l = l.length := by induction l <;> simp [lenL, *]
theorem All2.valsOf {α β : Type} {R : α → β → Prop} : ∀ {mask : List Bool} {as : List α} {bs : List β}, All2 R as bs → All2 R (Sy.valsOf mask as) (Sy.valsOf mask bs)
  | [], [], [], _ => trivial
  | [], _ :: _, _ :: _, _ => trivial
  | true :: _, [], [], _ => trivial
  | false :: _, [], [], _ => trivial
  | true :: mask, _ :: _, _ :: _, h => All2.valsOf (mask := mask) h.2
  | false :: mask, _ :: _, _ :: _, h => ⟨h.1, All2.valsOf (mask := mask) h.2⟩
  | _, [], _ :: _, h => h.elim
  | _, _ :: _, [], h => h.elim
theorem All2.ptrsIn {α β : Type} {R : α → β → Prop} : ∀ {mask : List Bool} {as : List α} {bs : List β}, All2 R as bs → All2 R (Sy.ptrsIn mask as) (Sy.ptrsIn mask bs)
  | [], [], [], _ => trivial
  | [], _ :: _, _ :: _, _ => trivial
  | true :: _, [], [], _ => trivial
  | false :: _, [], [], _ => trivial
  | true :: mask, _ :: _, _ :: _, h => ⟨h.1, All2.ptrsIn (mask := mask) h.2⟩
  | false :: mask, _ :: _, _ :: _, h => All2.ptrsIn (mask := mask) h.2
  | _, [], _ :: _, h => h.elim
  | _, _ :: _, [], h => h.elim

theorem boxKs_ok {X : Nat → Nat → Prop} : ∀ {xs : List SV} {vs : List Value} {ks : List Nat}, boxKs xs = some ks → All2 (SR m X w) xs vs → All2 (fun k v => ∃ b, m k = some (b, 0) ∧ v = .pointer (some ⟨b, 0, none⟩)) ks vs
  | [], vs, ks, h, ha => by
    simp only [boxKs, Option.some.injEq] at h
    subst h
    match vs, ha with | [], _ => exact trivial
  | x :: xs, [], ks, h, ha => ha.elim
  | x :: xs, v :: vs, ks, h, ha => by
    unfold boxKs at h
    split at h
    · rename_i heq; cases heq
    · rename_i k r heq
      cases heq
      split at h
      case h_2 => cases h
      rename_i ks' hks
      simp only [Option.some.injEq] at h
      subst h
      obtain ⟨b, h1, h2⟩ := ha.1
      exact ⟨⟨b, h1, h2⟩, boxKs_ok hks ha.2⟩
    · cases h

def BoxVals (m : Map) (w : World) : List (Nat × Nat) → List Value → Prop
  | [], vs => vs = []
  | (k, n) :: r, vs => ∃ (b : Nat) (us : Array Value) (T : TypeId) (vs' : List Value), m k = some (b, 0) ∧ w.heap[b]? = some (.cells us T (0, 0)) ∧ us.size = n ∧ vs = us.toList ++ vs' ∧ BoxVals m w r vs'

theorem rdW_ok (hs : SatM φ ν m st a w) : ∀ {l : List (Nat × Nat)} {cs : List Cell}, rdW st l = some cs → ∃ vs, BoxVals m w l vs ∧ CRs m (XA φ m) w cs vs ∧ ∀ k ∈ firsts l, ∃ ds, st.box k = some (.cells ds)
  | [], cs, h => by simp only [rdW, Option.some.injEq] at h; subst h; exact ⟨[], rfl, trivial, fun k hk => by cases hk⟩
  | (k, n) :: r, cs, h => by
    simp only [rdW] at h
    split at h
    case h_2 => cases h
    rename_i ds cs' hb hr
    obtain ⟨vs', h1, h2, h3⟩ := rdW_ok hs hr
    obtain ⟨hn, h⟩ := cnd_some h
    simp only [Option.some.injEq] at h
    subst h
    obtain ⟨b, us, T, hm, hh, hus⟩ := hs.box k _ hb
    have hn := beq_eq hn
    rw [len'_eq] at hn
    refine ⟨us.toList ++ vs', ⟨b, us, T, vs', hm, hh, by rw [← hn]; simpa using hus.length.symm, rfl, h1⟩, by rw [app_eq]; exact All2.append hus h2, fun j hj => ?_⟩
    simp only [firsts, List.mem_cons] at hj
    rcases hj with rfl | hj
    · exact ⟨ds, hb⟩
    · exact h3 j hj

theorem rdR_ok (hs : SatM φ ν m st a w) : ∀ {l : List (Nat × Nat)} {cs : List Cell}, rdR st l = some cs → ∃ vs, BoxVals m w l vs ∧ CRs m (XA φ m) w cs vs
  | [], cs, h => by simp only [rdR, Option.some.injEq] at h; subst h; exact ⟨[], rfl, trivial⟩
  | (k, n) :: r, cs, h => by
    simp only [rdR] at h
    split at h
    case h_2 => cases h
    rename_i ds cs' hb hr
    obtain ⟨vs', h1, h2⟩ := rdR_ok hs hr
    obtain ⟨hn, h⟩ := cnd_some h
    simp only [Option.some.injEq] at h
    subst h
    have hb' : st.box k = some (.cells ds) ∨ st.box k = some (.ro ds) := by
      unfold rdBox at hb
      split at hb
      · rename_i hq; simp only [Option.some.injEq] at hb; subst hb; exact .inl hq
      · rename_i hq; simp only [Option.some.injEq] at hb; subst hb; exact .inr hq
      · cases hb
    have : ∃ b us T, m k = some (b, 0) ∧ w.heap[b]? = some (.cells us T (0, 0)) ∧ CRs m (XA φ m) w ds us.toList := by
      rcases hb' with hb' | hb'
      · exact hs.box k _ hb'
      · exact hs.box k _ hb'
    obtain ⟨b, us, T, hm, hh, hus⟩ := this
    have hn := beq_eq hn
    rw [len'_eq] at hn
    exact ⟨us.toList ++ vs', ⟨b, us, T, vs', hm, hh, by rw [← hn]; simpa using hus.length.symm, rfl, h1⟩, by rw [app_eq]; exact All2.append hus h2⟩

/-- The boxes that pointers lead to. -/
theorem ptrVals_of {X : Nat → Nat → Prop} : ∀ {ks sz : List Nat} {vs pc : List Value}, All2 (fun k v => ∃ b, m k = some (b, 0) ∧ v = .pointer (some ⟨b, 0, none⟩)) ks vs → ks.length = sz.length → BoxVals m w (zipN ks sz) pc →
    (∀ k ∈ ks, ∀ b, m k = some (b, 0) → ∀ q, X b q) → ∃ bs, All2 (fun k b => m k = some (b, 0)) ks bs ∧ PtrVals w X bs sz vs pc
  | [], [], vs, pc, ha, hl, hb, hx => by
    match vs, ha with | [], _ => exact ⟨[], trivial, hb⟩
  | [], _ :: _, vs, pc, ha, hl, hb, hx => by simp at hl
  | _ :: _, [], vs, pc, ha, hl, hb, hx => by simp at hl
  | k :: ks, n :: sz, [], pc, ha, hl, hb, hx => ha.elim
  | k :: ks, n :: sz, v :: vs, pc, ha, hl, hb, hx => by
    obtain ⟨b, us, T, vs', hm, hh, hsz, rfl, hb'⟩ := hb
    obtain ⟨b2, hm2, hv⟩ := ha.1
    rw [hm] at hm2
    cases hm2
    obtain ⟨bs, h1, h2⟩ := ptrVals_of ha.2 (by simpa using hl) hb' (fun j hj => hx j (List.mem_cons_of_mem _ hj))
    exact ⟨b :: bs, ⟨hm, h1⟩, hv, hx k (by simp) b hm, us, T, vs', hh, hsz, rfl, h2⟩
theorem boxVals_of {X : Nat → Nat → Prop} : ∀ {ks sz bs : List Nat} {vs pc : List Value}, All2 (fun k b => m k = some (b, 0)) ks bs → PtrVals w X bs sz vs pc → BoxVals m w (zipN ks sz) pc
  | [], sz, [], vs, pc, _, h => by
    cases sz with
    | nil => cases vs with | nil => exact h | cons => exact h.elim
    | cons => cases vs <;> exact h.elim
  | [], _, _ :: _, _, _, h, _ => h.elim
  | _ :: _, _, [], _, _, h, _ => h.elim
  | k :: ks, [], b :: bs, vs, pc, _, h => by cases vs <;> exact h.elim
  | k :: ks, n :: sz, b :: bs, [], pc, _, h => h.elim
  | k :: ks, n :: sz, b :: bs, v :: vs, pc, ha, h => by
    obtain ⟨_, _, us, T, pc', hh, hsz, rfl, h'⟩ := h
    exact ⟨b, us, T, pc', ha.1, hh, hsz, rfl, boxVals_of ha.2 h'⟩
theorem All2.mem_right {α β : Type} {R : α → β → Prop} : ∀ {as : List α} {bs : List β}, All2 R as bs → ∀ b ∈ bs, ∃ a ∈ as, R a b
  | [], [], _, b, hb => by cases hb
  | a :: as, b :: bs, h, c, hc => by
    rcases List.mem_cons.1 hc with rfl | hc
    · exact ⟨a, by simp, h.1⟩
    · obtain ⟨x, hx, hr⟩ := All2.mem_right h.2 c hc; exact ⟨x, by simp [hx], hr⟩
  | [], _ :: _, h, _, _ => h.elim
  | _ :: _, [], h, _, _ => h.elim
theorem All2.mem_left {α β : Type} {R : α → β → Prop} : ∀ {as : List α} {bs : List β}, All2 R as bs → ∀ a ∈ as, ∃ b ∈ bs, R a b
  | [], [], _, b, hb => by cases hb
  | a :: as, b :: bs, h, c, hc => by
    rcases List.mem_cons.1 hc with rfl | hc
    · exact ⟨b, by simp, h.1⟩
    · obtain ⟨x, hx, hr⟩ := All2.mem_left h.2 c hc; exact ⟨x, by simp [hx], hr⟩
  | [], _ :: _, h, _, _ => h.elim
  | _ :: _, [], h, _, _ => h.elim
theorem bs_nodup (hs : SatM φ ν m st a w) : ∀ {ks bs : List Nat}, ks.Nodup → All2 (fun k b => m k = some (b, 0)) ks bs → bs.Nodup
  | [], [], _, _ => List.nodup_nil
  | k :: ks, b :: bs, hn, h => by
    obtain ⟨h1, h2⟩ := List.nodup_cons.1 hn
    refine List.nodup_cons.2 ⟨fun hb => ?_, bs_nodup hs h2 h.2⟩
    obtain ⟨k', hk', hm'⟩ := h.2.mem_right b hb
    have := hs.inj k k' b 0 0 h.1 hm' rfl rfl
    exact h1 (this ▸ hk')
  | [], _ :: _, _, h => h.elim
  | _ :: _, [], _, h => h.elim

theorem isEx_app {a b : List Cell} : isEx (a ++ b) = true ↔ isEx a = true ∧ isEx b = true := by
  induction a with
  | nil => simp [isEx]
  | cons c r ih =>
    cases c with
    | lst e tl l => cases tl <;> simp [isEx, ih]
    | _ => simp [isEx, ih]
theorem unvC_ex {fr : Bool} {c : Cell} (h : isEx [c] = true) : unvC fr st c = some c := by
  cases c with
  | vref e k => cases h
  | _ => rfl
theorem unvL_ex {fr : Bool} : ∀ {cs : List Cell}, isEx cs = true → unvL fr st cs = some cs
  | [], _ => rfl
  | c :: r, h => by
    have h1 : isEx [c] = true ∧ isEx r = true := isEx_app.1 h
    simp only [unvL, unvC_ex h1.1, unvL_ex h1.2]
theorem unvSs_ex {fr : Bool} : ∀ {xs : List SV}, isExS xs = true → unvSs fr st xs = some xs
  | [], _ => rfl
  | x :: r, h => by
    obtain ⟨h1, h2⟩ := andd_true h
    have : unvS fr st x = some x := by
      cases x with
      | one c => simp only [unvS, unvC_ex (show isEx [c] = true from h1)]
      | agg cs => simp only [unvS, unvL_ex (show isEx cs = true from h1)]
    simp only [unvSs, this, unvSs_ex h2]
theorem shapes_ex : ∀ {sh : List (Option Nat)} {xs : List SV} {cs : List Cell}, shapes sh xs = some cs → isExS xs = true → isEx cs = true
  | [], [], cs, h, _ => by simp only [shapes, Option.some.injEq] at h; subst h; rfl
  | none :: s, .one c :: xs, cs, h, hx => by
    obtain ⟨h1, h2⟩ := andd_true hx
    simp only [shapes, Option.map_eq_some_iff] at h
    obtain ⟨r, hr, rfl⟩ := h
    exact isEx_app (a := [c]).2 ⟨h1, shapes_ex hr h2⟩
  | some n :: s, .agg ds :: xs, cs, h, hx => by
    obtain ⟨h1, h2⟩ := andd_true hx
    simp only [shapes] at h
    obtain ⟨_, h⟩ := cnd_some h
    simp only [Option.map_eq_some_iff] at h
    obtain ⟨r, hr, rfl⟩ := h
    rw [app_eq]
    exact isEx_app.2 ⟨h1, shapes_ex hr h2⟩
  | none :: _, .agg _ :: _, _, h, _ => by cases h
  | some _ :: _, .one _ :: _, _, h, _ => by cases h
  | [], _ :: _, _, h, _ => by cases h
  | none :: _, [], _, h, _ => by cases h
  | some _ :: _, [], _, h, _ => by cases h
theorem exC_false : ∀ cs : List Cell, exC false cs = cs
  | [] => rfl
  | c :: r => by cases c <;> simp only [exC, exC_false r]
def Cell.no : Cell → Cell
  | .lst e _ l => .lst e .no l | c => c
def Cell.pl : Cell → Bool
  | .int _ _ => true | .bool _ => true | .flt _ _ => true | .str _ => true | .lst _ _ _ => true | .fn _ => true | _ => false
theorem exC_true : ∀ {cs : List Cell}, isEx cs = true → exC true (cs.map Cell.no) = cs
  | [], _ => rfl
  | c :: r, h => by
    have h1 : isEx [c] = true ∧ isEx r = true := isEx_app.1 h
    cases c with
    | lst e tl l =>
      cases tl with
      | no => cases h1.1
      | exact => simp only [List.map_cons, Cell.no, exC, exC_true h1.2]
    | _ => simp only [List.map_cons, Cell.no, exC, exC_true h1.2]
theorem CR.pl_any {m' : Map} {X : Nat → Nat → Prop} {c : Cell} {v : Value} (hp : c.pl = true) (h : CR m X w c v) : CR m' X w c v := by
  cases c with
  | lst e tl l => exact h
  | int k n => exact h
  | bool b => exact h
  | flt k n => exact h
  | str s => exact h
  | fn f => exact h
  | _ => cases hp

theorem enc_dec : ∀ {t : Ty} {cs : List Cell} {x : t.den}, dec t cs = some x → enc t x = cs.map Cell.no ∧ ∀ c ∈ cs, c.pl = true := by
  intro t
  induction t with
  | pair a b iha ihb =>
    intro cs x h
    unfold dec at h
    split at h
    · rename_i x1 x2 h1 h2
      cases h
      obtain ⟨h3, h4⟩ := iha h1
      obtain ⟨h5, h6⟩ := ihb h2
      refine ⟨?_, fun c hc => ?_⟩
      · simp only [enc, app_eq, h3, h5]
        rw [← List.map_append, List.take_append_drop]
      · rw [← List.take_append_drop a.n cs] at hc
        rcases List.mem_append.1 hc with hc | hc
        · exact h4 c hc
        · exact h6 c hc
    · cases h
  | int k =>
    intro cs x h
    unfold dec at h
    split at h
    · obtain ⟨h1, h2⟩ := cnd_some h
      cases h2
      exact ⟨by rw [← keq_eq h1]; rfl, by simp [Cell.pl]⟩
    · cases h
  | flt k =>
    intro cs x h
    unfold dec at h
    split at h
    · obtain ⟨h1, h2⟩ := cnd_some h
      cases h2
      exact ⟨by rw [← feq_eq h1]; rfl, by simp [Cell.pl]⟩
    · cases h
  | sl e ih =>
    intro cs x h
    unfold dec at h
    split at h
    · obtain ⟨e0, h2⟩ := castL_ok h
      subst e0
      subst h2
      exact ⟨rfl, by simp [Cell.pl]⟩
    · cases h
  | unit =>
    intro cs x h
    unfold dec at h
    split at h
    · cases h; exact ⟨rfl, by simp⟩
    · cases h
  | _ =>
    intro cs x h
    unfold dec at h
    split at h
    · cases h; exact ⟨rfl, by simp [Cell.pl]⟩
    · cases h

theorem applyB_new {f : Nat → Option Bx} {u : Nat} : ∀ {l : List (Nat × Nat)} {cs : List Cell}, applyB (newBxs l cs) f u = (match boxesOf .cells l cs u with | some bx => some bx | none => f u)
  | [], _ => rfl
  | (k, n) :: r, cs => by
    simp only [newBxs, applyB, boxesOf]
    by_cases h : u = k
    · rw [cnd_beq_true h, cnd_beq_true h]
    · rw [cnd_beq_false h, cnd_beq_false h]; exact applyB_new
theorem boxesOf_box {X : Nat → Nat → Prop} {rest : List Value} : ∀ {l : List (Nat × Nat)} {cs : List Cell} {vs : List Value} {u : Nat} {bx : Bx}, BoxVals m w l vs → CRs m X w cs (vs ++ rest) → boxesOf .cells l cs u = some bx →
    u ∈ firsts l ∧ ∃ cs', bx = .cells cs' ∧ ∃ b us T, m u = some (b, 0) ∧ w.heap[b]? = some (.cells us T (0, 0)) ∧ CRs m X w cs' us.toList
  | [], cs, vs, u, bx, _, _, h => by cases h
  | (k, n) :: r, cs, vs, u, bx, hv, hc, h => by
    obtain ⟨b, us, T, vs', hm, hh, hl, rfl, h1⟩ := hv
    have h3 := All2.take n hc
    have h4 := All2.drop n hc
    rw [List.append_assoc, show (us.toList ++ (vs' ++ rest)).take n = us.toList by rw [← hl]; simp] at h3
    rw [List.append_assoc, show (us.toList ++ (vs' ++ rest)).drop n = vs' ++ rest by rw [← hl]; simp] at h4
    simp only [boxesOf] at h
    by_cases hut : u = k
    · rw [cnd_beq_true hut] at h
      cases h
      subst hut
      exact ⟨by simp [firsts], _, rfl, b, us, T, hm, hh, h3⟩
    · rw [cnd_beq_false hut] at h
      obtain ⟨h5, h6⟩ := boxesOf_box h1 h4 h
      exact ⟨by simp [firsts, h5], h6⟩
theorem boxesOf_none {mk : List Cell → Bx} : ∀ {l : List (Nat × Nat)} {cs : List Cell} {u : Nat}, boxesOf mk l cs u = none → u ∉ firsts l
  | [], _, _, _, h => by cases h
  | (k, n) :: r, cs, u, h, hu => by
    simp only [boxesOf] at h
    simp only [firsts, List.mem_cons] at hu
    by_cases hut : u = k
    · rw [cnd_beq_true hut] at h; cases h
    · rw [cnd_beq_false hut] at h
      exact boxesOf_none h (hu.resolve_left hut)
theorem firsts_zip : ∀ {ks sz : List Nat}, ks.length = sz.length → firsts (zipN ks sz) = ks
  | [], [], _ => rfl
  | k :: ks, n :: sz, h => by simp only [zipN, firsts, firsts_zip (show ks.length = sz.length by simpa using h)]
  | [], _ :: _, h => by simp at h
  | _ :: _, [], h => by simp at h

theorem XA_box {k b : Nat} (h : m k = some (b, 0)) (q : Nat) : XA φ m b q := .inr ⟨k, 0, h, rfl⟩

/-- A call that is given pointers. -/
theorem ok_ptr {f : FuncId} {cp : Cp} {d : Nat} {xs0 : List SV} {args : Array Value} (hev : evPtr st cp d xs0 = some e) (hd : o.dst = some d) (hxs : All2 (SR m (XA φ m) w) xs0 args.toList)
    (hrun : (execOp a.eval o).run P w = .ok (.enter f args) w) (hok : CpOk P C.G f cp) (h : At P C φ ν own W st o e m a w K) : o.wp P a w K Q := by
  unfold evPtr at hev
  split at hev
  case h_2 => cases hev
  rename_i ks vs hks hvs
  split at hev
  case h_2 => cases hev
  rename_i kc0 vc hkc0 hvc
  split at hev
  case h_2 => cases hev
  rename_i kc hkc
  split at hev
  case h_2 => cases hev
  rename_i x hx
  split at hev
  case h_2 => cases hev
  rename_i tv htv
  obtain ⟨hc, hev⟩ := cnd_some hev
  obtain ⟨c1, hc⟩ := andd_true hc
  obtain ⟨c2, hc⟩ := andd_true hc
  obtain ⟨c3, hc⟩ := andd_true hc
  obtain ⟨c4, hc⟩ := andd_true hc
  obtain ⟨c5, c6⟩ := andd_true hc
  have c1 := beq_eq c1
  have c2 := beq_eq c2
  rw [lenL_eq, lenL_eq] at c1 c2
  simp only [Option.some.injEq] at hev
  subst hev
  have hvals := All2.valsOf (mask := cp.mask) hxs
  have hptrs := All2.ptrsIn (mask := cp.mask) hxs
  have hall := unvSs_ok h.sat hvs hvals (ks := vksS (valsOf cp.mask xs0)) (fun _ k hk => hk)
  obtain ⟨cv, hsh, hcv⟩ := shapes_ok hvc hall
  obtain ⟨pc, hbv, hpc, hown⟩ : ∃ pc, BoxVals m w (zipN ks cp.sz) pc ∧ CRs m (XA φ m) w kc0 pc ∧ (cp.ro = false → ∀ k ∈ firsts (zipN ks cp.sz), ∃ ds, st.box k = some (.cells ds)) := by
    cases hro : cp.ro with
    | true =>
      rw [hro] at hkc0
      obtain ⟨pc, h1, h2⟩ := rdR_ok h.sat hkc0
      exact ⟨pc, h1, h2, fun h => by cases h⟩
    | false =>
      rw [hro] at hkc0
      obtain ⟨pc, h1, h2, h3⟩ := rdW_ok h.sat hkc0
      exact ⟨pc, h1, h2, fun _ => h3⟩
  have hkcr := unvL_ok h.sat hkc hpc (ks := vksS (valsOf cp.mask xs0)) (fun h => by cases h)
  let X : Nat → Nat → Prop := Xc φ m (vksS (valsOf cp.mask xs0))
  have hXbox : ∀ k ∈ ks, ∀ b, m k = some (b, 0) → ∀ q, X b q := by
    intro k hk b hm q
    refine ⟨XA_box hm q, fun j hj p hp0 hp1 hmj => ?_⟩
    have := h.sat.inj k j b 0 p hm hmj rfl hp0
    subst this
    rw [hm] at hmj
    cases hmj
    omega
  obtain ⟨bs, hbs, hpv⟩ := ptrVals_of (X := X) (boxKs_ok hks hptrs) c2 hbv hXbox
  have hcs : CRs m X w (app vc kc) (cv ++ pc) := by rw [app_eq]; exact All2.append hcv hkcr
  obtain ⟨henc, hpl⟩ := enc_dec hx
  have hexc : CRs (fun _ => none) X w (exC cp.ex (enc cp.p x)) (cv ++ pc) := by
    cases hex : cp.ex with
    | false => rw [exC_false]; exact enc_ok (dec_ok hx hcs)
    | true =>
      rw [hex] at c5
      obtain ⟨e1, e2⟩ := andd_true ((orr_true c5).resolve_left (by intro hh; cases hh))
      have hv2 : vs = valsOf cp.mask xs0 := by rw [unvSs_ex e1] at hvs; exact (Option.some.inj hvs).symm
      have hk2 : kc = kc0 := by rw [unvL_ex e2] at hkc; exact (Option.some.inj hkc).symm
      have hiv : isEx (app vc kc) = true := by rw [app_eq]; exact isEx_app.2 ⟨shapes_ex hvc (by rw [hv2]; exact e1), by rw [hk2]; exact e2⟩
      rw [henc, exC_true hiv]
      have key : ∀ (cs : List Cell) (us : List Value), (∀ c ∈ cs, c.pl = true) → CRs m X w cs us → CRs (fun _ => none) X w cs us := by
        intro cs
        induction cs with
        | nil => intro us _ h; cases us with | nil => trivial | cons => exact h.elim
        | cons c cs ih => intro us hp h; cases us with | nil => exact h.elim | cons u us => exact ⟨CR.pl_any (hp c (by simp)) h.1, ih us (fun c hc => hp c (by simp [hc])) h.2⟩
      exact key _ _ hpl hcs
  have hsize : args.size = cp.mask.length := by rw [c1]; have := hxs.length; simpa using this.symm
  have hpre : ∀ q, cp.pre = some q → q x := fun q hq => h.need (q x) (by simp [hq])
  have hcall := hok x w X args cv pc bs h.hw (fun b p hX => ⟨live_lt h.sat hX.1, h.fr.gl ▸ XA_gl h.sat hX.1⟩) hpre hsize (bs_nodup h.sat (nodupN_spec c3) hbs) hsh hpv hexc
  have hXA : ∀ {t : Ty} {y : t.den} {us : List Value} {w' : World}, (isNilB (vksS (valsOf cp.mask xs0)) = true ∨ t.hasSl = false) → TR w' X t y us → TR w' (XA φ m) t y us := by
    intro t y us w' hc ht
    rcases hc with hc | hc
    · have : vksS (valsOf cp.mask xs0) = [] := by cases hv : vksS (valsOf cp.mask xs0) with | nil => rfl | cons k r => rw [hv] at hc; cases hc
      have hX : X = XA φ m := by funext b q; show Xc φ m (vksS (valsOf cp.mask xs0)) b q = _; rw [this]; simp [Xc]
      rw [hX] at ht; exact ht
    · exact TR.nosl hc ht
  have hcr : (isNilB (vksS (valsOf cp.mask xs0)) = true ∨ cp.r.hasSl = false) ∧ (isNilB (vksS (valsOf cp.mask xs0)) = true ∨ cp.q.hasSl = false) := by
    rcases orr_true c6 with h1 | h1
    · exact ⟨.inl h1, .inl h1⟩
    · obtain ⟨h2, h3⟩ := andd_true h1; exact ⟨.inr (nott_true h2), .inr (nott_true h3)⟩
  unfold Oper.wp
  rw [hrun, Oper.upon_enter]
  refine hcall.mono fun e' w' ⟨v, he', hb, ⟨rv, hr1, _, hr2⟩, pc', hpv', hq⟩ => ?_
  subst he'
  show K (a.put o.dst v) w'
  rw [hd]
  have hres : ∀ m', VR m' (XA φ m) w' tv v := fun m' => mkRes_ok htv (enc_ok (hXA hcr.1 hr1)) hr2
  cases hro : cp.ro with
  | true =>
    rw [hro] at hb
    have hbel : Below w.heap.size w w' := ⟨hb.os, hb.tape, hb.output, hb.size, fun k hk => hb.block k hk (by simp)⟩
    have := (h.sat.ext hbel).put (h.dst d hd).1 (h.dst d hd).2 h.tags (hres m)
    refine h.next _ _ ⟨m, ?_⟩
    rw [hro]
    exact this
  | false =>
    rw [hro] at hb
    have hb : BelowBut bs w w' := hb
    have hbv' := boxVals_of hbs hpv'
    have hqc : CRs m (XA φ m) w' (enc cp.q (cp.F x).2) (pc' ++ []) := by rw [List.append_nil]; exact enc_ok (hXA hcr.2 hq)
    have hfz := firsts_zip c2
    have hbsk : ∀ b, b ∈ bs → ∃ k ∈ ks, m k = some (b, 0) := fun b hb => hbs.mem_right b hb
    have hkeep : Keeps (XA φ m) w w' := ⟨hb.size, fun b p hlt hx => by
      have : b ∉ bs := fun hin => by obtain ⟨k, _, hk⟩ := hbsk b hin; exact hx (XA_box hk p)
      unfold World.cell?; rw [hb.block b hlt this], hb.shape, fun b p hlt => hb.frozen b p hlt⟩
    have hsat' : SatM φ ν m { slot := st.slot, box := applyB (newBxs (zipN ks cp.sz) (enc cp.q (cp.F x).2)) st.box } a w' := by
      refine h.sat.change hkeep (MLe.refl m) noMore_refl ?_ h.sat.inj (fun k b p hk he => Nat.lt_of_lt_of_le (h.sat.low k b p hk he) hb.size) ?_ ?_ h.sat.vn h.sat.ngl ?_ ⟨hb.os, hb.tape, hb.output⟩ ?_
      · intro k bx hk
        rw [applyB_new] at hk
        split at hk
        · rename_i bx' hbx
          cases hk
          obtain ⟨_, cs', rfl, b, us, T, h1, h2, h3⟩ := boxesOf_box hbv' hqc hbx
          exact ⟨b, us, T, h1, h2, h3⟩
        · rename_i hnone
          have hkn := boxesOf_none hnone
          rw [hfz] at hkn
          refine (h.sat.box k bx hk).mle hkeep noMore_refl (MLe.refl m) fun b p h1 h2 => ⟨h1, hb.block b (h.sat.low _ _ _ h1 h2) fun hin => ?_⟩
          obtain ⟨k', hk', hm'⟩ := hbsk b hin
          exact hkn (h.sat.inj k k' b p 0 h1 hm' h2 rfl ▸ hk')
      · intro k hk
        rw [applyB_new] at hk
        split at hk
        · cases hk
        · exact h.sat.dom k hk
      · intro k bx b p h1 h2 h3 h4
        rw [applyB_new] at h1
        split at h1
        · rename_i bx' hbx
          obtain ⟨hin, _⟩ := boxesOf_box hbv' hqc hbx
          obtain ⟨ds, hds⟩ := hown hro k hin
          exact h.sat.own k _ b p hds rfl h3 h4
        · exact h.sat.own k bx b p h1 h2 h3 h4
      · refine ⟨hb.os, hb.tape, hb.size, fun b hg => ⟨h.sat.glt b hg, hb.block b (h.sat.glt b hg) fun hin => ?_⟩⟩
        obtain ⟨k, _, hk⟩ := hbsk b hin
        exact h.sat.ngl k b 0 hk rfl hg
      · intro b hlt hnB
        refine hb.block b (Nat.lt_of_lt_of_le hlt h.sat.old.2.2.2) fun hin => ?_
        obtain ⟨k, hk, hm⟩ := hbsk b hin
        obtain ⟨ds, hds⟩ := hown hro k (by rw [hfz]; exact hk)
        rcases h.sat.own k _ b 0 hds rfl hm rfl with h5 | h5
        · exact hnB h5
        · omega
    refine h.next _ _ ⟨m, ?_⟩
    rw [hro]
    exact hsat'.put (h.dst d hd).1 (h.dst d hd).2 h.tags (hres m)

theorem Xc_frz (hs : SatM φ ν m st a w) : ∀ {ks : List Nat}, allFz st ks = true → Xc φ m ks = XA φ m := by
  intro ks h
  have key : ∀ (ks : List Nat), allFz st ks = true → ∀ k ∈ ks, ∀ b p, p % 2 = 0 → m k ≠ some (b, p) := by
    intro ks
    induction ks with
    | nil => intro _ k hk; cases hk
    | cons k0 r ih =>
      intro h k hk b p hp hm
      simp only [allFz] at h
      split at h
      · rename_i t l hb
        rcases List.mem_cons.1 hk with rfl | hk
        · obtain ⟨b', p', h1, h2⟩ := hs.box _ _ hb
          rw [hm] at h1
          cases h1
          rcases h2 with ⟨_, h3⟩ | ⟨h3, _⟩ <;> omega
        · exact ih h k hk b p hp hm
      · cases h
  funext b q
  exact propext ⟨fun hx => hx.1, fun hx => ⟨hx, fun k hk p hp _ => key ks h k hk b p hp⟩⟩
theorem ok_callF {c : Call} (hop : o.op = .call c) {f : FuncId} (hcal : c.callee = .value (.func f)) (h : At P C φ ν own W st o e m a w K) : o.wp P a w K Q := by
  have he := h.ev
  simp only [evOp, hop, hcal] at he
  split at he
  · rename_i xt hxt
    split at he
    case h_2 => cases he
    rename_i x hargs
    split at he
    case h_2 => cases he
    rename_i cx hx
    split at he
    case h_2 => cases he
    rename_i r hr
    have hu := opndc_ok h.sat h.tags hx
    have hok := h.ctx.xt f xt hxt
    have hargs' : c.args.map a.eval = #[a.eval x] := by apply Array.ext'; simp [hargs]
    have hrun : ∀ v, (callFunc f #[a.eval x]).run P w = .ok (.value v) w → (execOp a.eval o).run P w = .ok (.value v) w := by
      intro v hv
      simp only [execOp, hop, resolve, hcal, Act.eval, Deferred.ofValue, Sem.run_bind, Sem.run_pure, Result.andThen_ok, invoke]
      simp only [hargs', Array.append_empty]
      exact hv
    unfold xtOp at hr
    split at hr
    · cases hr
      have hu : a.eval x = .float .f64 _ := hu
      refine h.out0 he (hrun _ ?_) rfl
      rw [hu]
      exact hok _ w
    · cases hr
      have hu : a.eval x = .int .u64 _ := hu
      refine h.out0 he (hrun _ ?_) rfl
      rw [hu]
      exact hok _ w
    · cases hr
  split at he
  · rename_i cp hcp
    split at he
    case h_2 => cases he
    rename_i d xs0 hd hxs0
    obtain ⟨hok, fn, hfn, hname, hbody⟩ := h.ctx.pg f cp hcp
    refine ok_ptr (args := c.args.map a.eval) he hd (by simpa using allSV_ok h.sat h.tags hxs0) ?_ hok h
    simp only [execOp, hop, resolve, hcal, Act.eval, Deferred.ofValue, Sem.run_bind, Sem.run_pure, Result.andThen_ok, invoke]
    rw [run_callF hfn hname hbody]
    simp [Act.eval]
  split at he
  case h_2 => cases he
  rename_i ct d hct hd
  split at he
  case h_2 => cases he
  rename_i xs0 hxs0
  split at he
  case h_2 => cases he
  rename_i xs hxs
  split at he
  case h_2 => cases he
  rename_i cs hcs
  split at he
  case h_2 => cases he
  rename_i x hx
  obtain ⟨hok, fn, hfn, hname, hbody⟩ := h.ctx.Γ f ct hct
  have hall := unvSs_ok h.sat hxs (allSV_ok h.sat h.tags hxs0) (ks := vksS xs0) (fun _ k hk => hk)
  obtain ⟨cv, hsh, hcv⟩ := shapes_ok hcs hall
  have hrun : (execOp a.eval o).run P w = .ok (.enter f (c.args.map a.eval)) w := by
    simp only [execOp, hop, resolve, hcal, Act.eval, Deferred.ofValue, Sem.run_bind, Sem.run_pure, Result.andThen_ok, invoke]
    rw [run_callF hfn hname hbody]
    simp [Act.eval]
  have hcall : ∀ (hpre : ∀ q, ct.pre = some q → q x), _ := fun hpre => hok x w (Xc φ m (vksS xs0)) (c.args.map a.eval) cv h.hw (fun b p hX => ⟨live_lt h.sat hX.1, h.fr.gl ▸ XA_gl h.sat hX.1⟩) hpre (by simpa using hsh) (dec_ok hx hcv)
  split at he
  · rename_i hfr
    split at he
    case h_2 => cases he
    rename_i tv htv
    obtain ⟨hc, he⟩ := cnd_some he
    simp only [Option.some.injEq] at he
    subst he
    have hpre : ∀ q, ct.pre = some q → q x := fun q hq => h.need (q x) (by simp [hq])
    unfold Oper.wp
    rw [hrun, Oper.upon_enter]
    refine (hcall hpre).mono fun e' w' ⟨v, he', hb, cv', h1, _, h2⟩ => ?_
    subst he'
    show K (a.put o.dst v) w'
    rw [hd]
    have h3 : TR w' (XA φ m) ct.r (ct.F x) cv' := by
      rcases orr_true hc with hc | hc
      · have hX : Xc φ m (vksS xs0) = XA φ m := Xc_frz h.sat hc
        rw [← hX]; exact h1
      · exact TR.nosl (nott_true hc) h1
    exact h.next _ _ ⟨m, (h.sat.ext hb).put (h.dst d hd).1 (h.dst d hd).2 h.tags (mkRes_ok htv (enc_ok h3) h2)⟩
  · rename_i T hfr0
    have hfr : ct.fresh = some T := by
      unfold frO at hfr0
      split at hfr0
      · exact hfr0
      · cases hfr0
    split at he
    case h_2 => cases he
    rename_i ety l tv hl1 htv hnone
    obtain ⟨hc, he⟩ := cnd_some he
    obtain ⟨hc1, hc2⟩ := andd_true hc
    obtain ⟨hc2, hc3⟩ := andd_true hc2
    have hnsl := nott_true hc1
    have hn : 1 ≤ ety.n := Nat.le_of_ble_eq_true hc2
    have hlsts := beq_eq hc3
    obtain ⟨o', T', he, hT', hkind⟩ : ∃ o' T', e = ⟨(match ct.pre with | some q => some (q x) | none => none), some (d, tv), [(d, some (.vec o' T' ety l))]⟩ ∧
        T' = unB T ∧ ((Nat.ble big T = false ∧ o' = true) ∨ (Nat.ble big T = true ∧ o' = false ∧ allFz st (vksS xs0) = true)) := by
      cases hB : Nat.ble big T with
      | true =>
        rw [hB] at he
        obtain ⟨hz, he⟩ := cnd_some he
        simp only [Option.some.injEq] at he
        exact ⟨false, _, he.symm, rfl, .inr ⟨rfl, rfl, hz⟩⟩
      | false =>
        rw [hB] at he
        simp only [cnd, Option.some.injEq] at he
        exact ⟨true, T, he.symm, by unfold unB; rw [hB]; rfl, .inl ⟨rfl, rfl⟩⟩
    subst he
    have hpre : ∀ q, ct.pre = some q → q x := fun q hq => h.need (q x) (by simp [hq])
    unfold Oper.wp
    rw [hrun, Oper.upon_enter]
    refine (hcall hpre).mono fun e' w' ⟨v, he', hb, cv', h1, h1f, h2⟩ => ?_
    subst he'
    show K (a.put o.dst v) w'
    rw [hd]
    have hfc := enc_fresh h1 (h1f T hfr)
    obtain ⟨u, tl, hu, hall⟩ := fresh_split (d := d) hfc hlsts hl1
    have fin : ∀ (b p : Nat), (p % 2 = 0 → w.heap.size ≤ b ∧ b < w'.heap.size) → (∀ m', m' d = some (b, p) → NoMore w (XA φ m) (XA φ m') → (∀ b' q, XA φ m' b' q → XA φ m b' q ∨ p % 2 = 0) → BoxOk m' (XA φ m') w' d (.vec o' T' ety l)) → (∀ m', m' d = some (b, p) → CR m' (XA φ m') w' (.vref ety d) u) → K (a.put (some d) v) w' := by
      intro b p hbp hbx hcr
      refine h.next _ _ ?_
      have h4 := h.sat.newKey (bx := .vec o' T' ety l) hnone hb (fun hp => (hbp hp).1) (fun hp => (hbp hp).2) (fun m' h5 _ h7 h8 => hbx m' h5 h7 h8)
      rw [apply_put, applyB_one]
      exact ⟨_, h4.put (h.dst d hd).1 (h.dst d hd).2 h.tags (mkRes_ok htv (hall _ _ (hcr _ (by simp))) h2)⟩
    rcases hu with ⟨hu, rfl⟩ | ⟨b, cap, us, hu, hnb, hrow, hsz, hcap, hmax, hrows⟩ | ⟨hB, b, cap, T9, hu, hsh, hceq, hcap, hmax, hrows⟩
    · exact fin 0 1 (fun hp => by omega) (fun m' h5 _ _ => ⟨_, _, h5, .inl ⟨rfl, rfl⟩⟩) (fun m' h5 => ⟨_, _, h5, by omega, .inl ⟨rfl, hu⟩⟩)
    · obtain ⟨z9, hh, hz9⟩ : RowBlk w' b us T' := by rw [hT']; exact hrow
      have hblt : b < w'.heap.size := (Array.getElem?_eq_some_iff.1 hh).1
      refine fin b (2 * l.length + 2) (fun _ => ⟨hnb, hblt⟩) (fun m' h5 _ _ => ⟨_, _, h5, .inr (.inl ⟨rfl, us, cap, ⟨z9, hh, hz9⟩, hsz, hcap, hmax, fun i hi => ?_⟩)⟩)
        (fun m' h5 => ⟨_, _, h5, by omega, .inr ⟨by omega, cap, T', by rw [vlen_live]; exact hu, by unfold World.shape?; rw [hh]; simp [hsz], by rw [vlen_live]; exact hcap, hmax⟩⟩)
      obtain ⟨vs, hvl, hvc, hvr⟩ := hrows i hi
      have him : i * ety.n + ety.n ≤ us.size := by rw [hsz, ← Nat.succ_mul]; exact Nat.mul_le_mul_right _ (by omega)
      have : (us.toList.drop (i * ety.n)).take ety.n = vs := by
        apply List.ext_getElem?
        intro j
        rw [chunk_get]
        split
        · rename_i hj
          have := hvc j hj
          rw [cell_heap hh, Nat.zero_add] at this
          rw [Array.getElem?_toList, this, List.getD_eq_getElem?_getD, List.getElem?_eq_getElem (show j < vs.length by omega)]
          rfl
        · rw [List.getElem?_eq_none (by omega)]
      rw [this]
      exact TR.nosl hnsl hvr
    · rcases hkind with ⟨k1, _⟩ | ⟨_, rfl, hfz⟩
      · rw [k1] at hB; cases hB
      · have hX : Xc φ m (vksS xs0) = XA φ m := Xc_frz h.sat hfz
        rw [hX] at hrows
        have hodd : ∀ n : Nat, ¬ (2 * n + 3) % 2 = 0 := fun n => by omega
        refine fin b (2 * l.length + 3) (fun hp => absurd hp (hodd _)) (fun m' h5 h6 h7 => ⟨_, _, h5, .inr (.inr ⟨rfl, rfl, ?_, T9, hsh⟩)⟩)
          (fun m' h5 => ⟨_, _, h5, by omega, .inr ⟨by omega, cap, T9, by rw [vlen_dead]; exact hu, by rw [← hceq]; exact hsh, by rw [vlen_dead]; exact hcap, hmax⟩⟩)
        exact hrows.mono keeps_same (fun b' q _ hx => (h7 b' q hx).resolve_right (hodd _)) (fun x vs hv => TR.nosl hnsl hv)

theorem ok_call {c : Call} (hop : o.op = .call c) (h : At P C φ ν own W st o e m a w K) : o.wp P a w K Q := by
  by_cases hcf : ∃ f, c.callee = .value (.func f)
  · obtain ⟨f, hcf⟩ := hcf
    exact ok_callF hop hcf h
  have he := h.ev
  simp only [evOp, hop] at he
  split at he
  · rename_i f hcal
    exact absurd ⟨f, hcal⟩ hcf
  · rename_i t hcal
    split at he
    case h_3 => cases he
    · rename_i f d xs0 hf hd hxs0
      split at he
      case h_2 => cases he
      rename_i cv xs hcv hxs
      split at he
      case h_2 => cases he
      rename_i cs hcs
      split at he
      case h_2 => cases he
      rename_i x hx
      split at he
      case h_2 => cases he
      rename_i tv htv
      obtain ⟨hc, he⟩ := cnd_some he
      simp only [Option.some.injEq] at he
      subst he
      obtain ⟨g, rfl, hg⟩ := h.need _ rfl
      obtain ⟨hok, fn, hfn, hname, hbody⟩ := h.ctx.fv cv hcv g hg
      have hall := unvSs_ok h.sat hxs (allSV_ok h.sat h.tags hxs0) (ks := vksS xs0) (fun _ k hk => hk)
      obtain ⟨cv', hsh, hcvr⟩ := shapes_ok hcs hall
      have hfv : a.eval (.tmp t) = .func (.func g) #[] #[] := opndc_ok h.sat h.tags hf
      have hrun : (execOp a.eval o).run P w = .ok (.enter g (c.args.map a.eval)) w := by
        simp only [execOp, hop, resolve, hcal, hfv, Deferred.ofValue, Sem.run_bind, Sem.run_pure, Result.andThen_ok, invoke]
        rw [run_callF hfn hname hbody]
        simp
      have hcall := hok x w (Xc φ m (vksS xs0)) (c.args.map a.eval) cv' h.hw (fun b p hX => ⟨live_lt h.sat hX.1, h.fr.gl ▸ XA_gl h.sat hX.1⟩) (fun q hq => by cases hq) (by simpa using hsh) (dec_ok hx hcvr)
      unfold Oper.wp
      rw [hrun, Oper.upon_enter]
      refine hcall.mono fun e' w' ⟨v, he', hb, cv2, h1, _, h2⟩ => ?_
      subst he'
      show K (a.put o.dst v) w'
      rw [hd]
      have h3 : TR w' (XA φ m) cv.r (cv.F g x) cv2 := by
        rcases orr_true hc with hc | hc
        · have : vksS xs0 = [] := by cases hv : vksS xs0 with | nil => rfl | cons k r => rw [hv] at hc; cases hc
          have hX : Xc φ m (vksS xs0) = XA φ m := by funext b q; rw [this]; simp [Xc]
          rw [← hX]; exact h1
        · exact TR.nosl (nott_true hc) h1
      exact h.next _ _ ⟨m, (h.sat.ext hb).put (h.dst d hd).1 (h.dst d hd).2 h.tags (mkRes_ok htv (enc_ok h3) h2)⟩
    · rename_i f ks d xs0 hf hd hxs0
      split at he
      case h_2 => cases he
      rename_i cp hcp
      obtain ⟨hok, fn, hfn, hname, hbody⟩ := h.ctx.pg f cp hcp
      obtain ⟨vs, hfv, hvs⟩ := opndc_ok h.sat h.tags hf
      have hcap : ∀ (ks : List Nat) (vs : List Value), All2 (fun k u => ∃ b, m k = some (b, 0) ∧ u = .pointer (some ⟨b, 0, none⟩)) ks vs → All2 (SR m (XA φ m) w) (capS ks) vs := by
        intro ks
        induction ks with
        | nil => intro vs hh; cases vs with | nil => trivial | cons => exact hh.elim
        | cons k ks ih => intro vs hh; cases vs with | nil => exact hh.elim | cons u us => exact ⟨hh.1, ih us hh.2⟩
      refine ok_ptr (args := c.args.map a.eval ++ vs.toArray) he hd ?_ ?_ hok h
      · rw [app_eq]
        simpa using All2.append (allSV_ok h.sat h.tags hxs0) (hcap ks vs hvs)
      · simp only [execOp, hop, resolve, hcal, hfv, Deferred.ofValue, Sem.run_bind, Sem.run_pure, Result.andThen_ok, invoke]
        rw [run_callF hfn hname hbody]
        simp
  · rename_i hcal
    split at he
    case h_2 => cases he
    rename_i s x ts tx k hxy hts hdst
    split at he
    case h_2 => cases he
    rename_i d dx cs cx hD hDx hnone hs hx
    split at he
    case h_3 => cases he
    case h_2 =>
      rename_i el ety hk hty hkx
      split at he
      case h_2 => cases he
      rename_i de l1 j ow l2 hDe h1 h2
      obtain ⟨hc, he⟩ := cnd_some he
      obtain ⟨hc1, hc2⟩ := andd_true hc
      simp only [Option.some.injEq] at he
      unfold strNew at h2
      split at h2
      case h_3 => cases h2
      case h_2 =>
        rename_i kv n _
        split at h2
        case h_2 => cases h2
        rename_i kx hag hst
        simp only [Option.some.injEq] at h2
        subst h2
        obtain ⟨d1, hd1, hpl⟩ := plainTy_spec (t := tx) (ty := .int kx) h.ctx (by simp [plainTy, hDx, hag, hst, cnd])
        simp only [plainOk] at hpl
        subst hpl
        obtain ⟨hn0, hbd⟩ : 0 ≤ n ∧ _ := h.need _ (by rw [← he]; rfl)
        obtain ⟨ht, i, z, hi1, hi2, hi3, hzc, hby, hinfo⟩ := elem_info h.ctx hD hk hty hDe (beq_eq hc2) (Nat.le_of_ble_eq_true hc1)
        have hb2 := hbd.1
        have hb3 := hbd.2
        rw [List.length_replicate] at hb2 hb3
        refine ok_append_src (cx := .int kv n) hop hcal hxy hts hdst hD hnone hs hk hty hDe h1 ?_ (fun _ => rfl) (Nat.le_of_ble_eq_true hc1) (beq_eq hc2) hbd he.symm h
        rw [show a.eval x = .int kv n from opndc_ok h.sat h.tags hx]
        refine srcA_zero hd1 hi1 hi3 hzc (Nat.le_of_ble_eq_true hc1) hn0 ?_ (by omega)
        rw [hby]
        refine Nat.le_trans (Nat.mul_le_mul_right _ (Nat.le_add_left _ l1.length)) (Nat.le_trans hb2 (by decide))
      rename_i sx _
      split at h2
      case h_2 => cases h2
      rename_i hag hst
      obtain ⟨rfl, hl⟩ := castL_eq h2
      simp only at hl
      subst hl
      obtain ⟨d1, hd1, hpl⟩ := plainTy_spec (t := tx) (ty := .str) h.ctx (by simp [plainTy, hDx, hag, hst, cnd])
      simp only [plainOk] at hpl
      subst hpl
      refine ok_append_src (cx := .str sx) hop hcal hxy hts hdst hD hnone hs hk hty hDe h1 ?_ (fun _ => rfl) (Nat.le_of_ble_eq_true hc1) (beq_eq hc2) (h.need _ (by rw [← he]; rfl)) he.symm h
      rw [show a.eval x = .string sx from opndc_ok h.sat h.tags hx]
      exact srcA_str hd1 sx
    rename_i el ety ex hk hty hkx
    split at he
    case h_2 => cases he
    rename_i de l1 j ow l2 hDe h1 h2
    obtain ⟨hc, he⟩ := cnd_some he
    obtain ⟨hc1, hc2⟩ := andd_true hc
    obtain ⟨hc2, hc3⟩ := andd_true hc2
    obtain ⟨hc3, hc4⟩ := andd_true hc3
    simp only [Option.some.injEq] at he
    exact ok_append hop hcal hxy hts hdst hD hDx hnone hs hx hk hty hkx hDe h1 h2 (beq_eq hc1) (Nat.le_of_ble_eq_true hc3) (beq_eq hc4) he.symm h
  · rename_i hcal
    split at he
    case h_2 => cases he
    rename_i s x ts tx k hxy hts hdst
    split at he
    case h_2 => cases he
    rename_i d dx e0 j cx hD hDx hs hx
    split at he
    case h_2 => cases he
    rename_i el ex T ety l hk hkx hbx
    split at he
    case h_2 => cases he
    rename_i de l2 hDe h2
    obtain ⟨hc, he⟩ := cnd_some he
    obtain ⟨hc1, hc2⟩ := andd_true hc
    obtain ⟨hc2, hc3⟩ := andd_true hc2
    simp only [Option.some.injEq] at he
    exact ok_copy hop hcal hxy hts hdst hD hDx hs hx hk hkx hbx hDe h2 (beq_eq hc2) (beq_eq hc3) (Nat.le_of_ble_eq_true hc1) he.symm h
  · rename_i hcal
    split at he
    case h_2 => cases he
    rename_i x ty rest hx ht
    split at he
    case h_2 => cases he
    rename_i d hD
    have hrun : ∀ u, (Builtin.len_ c.argTypes o.type #[a.eval x]).run P w = .ok u w → (execOp a.eval o).run P w = .ok (.value u) w := by
      intro u hu
      have hargs : c.args.map a.eval = #[a.eval x] := by apply Array.ext'; simp [hx]
      simp only [execOp, hop, resolve, hcal, Sem.run_bind, Sem.run_pure, Result.andThen_ok, invoke, builtin, hargs, hu]
    have hat : c.argTypes[0]? = some ty := by rw [← Array.getElem?_toList, ht]; rfl
    obtain ⟨e0, hde, hkd, hpl⟩ := (h.ctx.D ty d hD).desc
    split at he
    · rename_i el tl' l' ll hk hxx
      unfold kindOk at hkd
      rw [hk] at hkd
      obtain ⟨_, rfl, _⟩ := hkd
      obtain ⟨hl, _⟩ := opndc_ok h.sat h.tags hxx
      refine h.out0 he (v := .int .i64 _) (hrun _ ?_) rfl
      rcases hl with ⟨h0, hu⟩ | ⟨ad, cap, hu, _⟩
      · rw [hu, run_len_sl hat hde, h0]; rfl
      · rw [hu, run_len_sl hat hde]
    · rename_i el e0 k0 hk hxx
      unfold kindOk at hkd
      rw [hk] at hkd
      obtain ⟨_, rfl, _⟩ := hkd
      have hv := opndc_ok h.sat h.tags hxx
      have main : ∀ n : Nat, (∀ b p, m k0 = some (b, p) → vlen p = n) → outE o none (.one (.int .i64 (n : Int))) = some e → o.wp P a w K Q := by
        intro n hn he
        refine h.out0 he (v := .int .i64 (n : Int)) (hrun _ ?_) rfl
        obtain ⟨b, p, hm, hp, hval⟩ := hv
        have := hn b p hm
        rcases hval with ⟨h1, hu⟩ | ⟨_, cap, T, hu, _⟩
        · rw [h1] at this; simp [vlen] at this; subst this
          rw [hu, run_len_sl hat hde]
        · rw [hu, run_len_sl hat hde, this]
      split at he
      · rename_i ow T ee l hbx; exact main _ (vec_len h.sat hbx) he
      · rename_i ee l hbx; exact main _ (frz_len h.sat hbx) he
      · cases he
    · rename_i s hk hag hty hxx
      have hu : a.eval x = .string s := opndc_ok h.sat h.tags hxx
      have hpl := hpl hag
      rw [hty] at hpl
      simp only [plainOk] at hpl
      subst hpl
      refine h.out0 he (v := .int .i64 _) (hrun _ ?_) rfl
      rw [hu, run_len_str hat hde]
    · cases he
  · rename_i hcal
    split at he
    case h_2 => cases he
    rename_i x y hxy
    split at he
    case h_2 => cases he
    rename_i cx cy hx hy
    split at he
    case h_2 => cases he
    rename_i r hr
    unfold minC at hr
    split at hr
    case h_2 => cases hr
    rename_i k i k' j
    obtain ⟨hk, hr⟩ := cnd_some hr
    simp only [Option.some.injEq] at hr
    subst hr
    have hX : a.eval x = .int k i := opndc_ok h.sat h.tags hx
    have hY : a.eval y = .int k' j := opndc_ok h.sat h.tags hy
    have hargs : c.args.map a.eval = #[.int k i, .int k' j] := by apply Array.ext'; simp [hxy, hX, hY]
    refine h.out0 he (v := .int k (min i j)) ?_ rfl
    simp only [execOp, hop, resolve, hcal, Sem.run_bind, Sem.run_pure, Result.andThen_ok, invoke, builtin, hargs, ok_min_int]
  · rename_i hcal
    split at he
    · rename_i x y hxy
      split at he
      case h_2 => cases he
      rename_i cx cy hx hy
      split at he
      case h_2 => cases he
      rename_i r hr
      unfold minC at hr
      split at hr
      case h_2 => cases hr
      rename_i k i k' j
      obtain ⟨hk, hr⟩ := cnd_some hr
      simp only [Option.some.injEq] at hr
      subst hr
      have hX : a.eval x = .int k i := opndc_ok h.sat h.tags hx
      have hY : a.eval y = .int k' j := opndc_ok h.sat h.tags hy
      have hargs : c.args.map a.eval = #[.int k i, .int k' j] := by apply Array.ext'; simp [hxy, hX, hY]
      refine h.out0 he (v := .int k (max i j)) ?_ rfl
      simp only [execOp, hop, resolve, hcal, Sem.run_bind, Sem.run_pure, Result.andThen_ok, invoke, builtin, hargs, ok_max_int]
    · rename_i x y z hxy
      split at he
      case h_2 => cases he
      rename_i cx cy cz hx hy hz
      split at he
      case h_2 => cases he
      rename_i q hq
      split at he
      case h_2 => cases he
      rename_i r hr
      unfold minC at hq
      split at hq
      case h_2 => cases hq
      rename_i k i k' j
      obtain ⟨hk, hq⟩ := cnd_some hq
      simp only [Option.some.injEq] at hq
      subst hq
      unfold minC at hr
      split at hr
      case h_2 => cases hr
      rename_i k1 i1 k2 j2 heq
      obtain ⟨hk2, hr⟩ := cnd_some hr
      simp only [Option.some.injEq] at hr
      subst hr
      cases heq
      have hX : a.eval x = .int k i := opndc_ok h.sat h.tags hx
      have hY : a.eval y = .int k' j := opndc_ok h.sat h.tags hy
      have hZ : a.eval z = .int k2 j2 := opndc_ok h.sat h.tags hz
      have hargs : c.args.map a.eval = #[.int k i, .int k' j, .int k2 j2] := by apply Array.ext'; simp [hxy, hX, hY, hZ]
      refine h.out0 he (v := .int k (max (max i j) j2)) ?_ rfl
      simp only [execOp, hop, resolve, hcal, Sem.run_bind, Sem.run_pure, Result.andThen_ok, invoke, builtin, hargs, ok_max_int3]
    · cases he
  · cases he

theorem run_bound {x : Operand} {k : IntKind} {n : Int} {y : Nat} {code : BoundsCode} (hx : a.eval x = .int k n) (h0 : 0 ≤ n) (h1 : n ≤ (y : Int)) : (Instr.sliceBound (a.eval x) y code).run P w = .ok n.toNat w := by
  simp only [Instr.sliceBound, hx, asIntOf, Sem.run_bind, Sem.run_pure, Result.andThen_ok]
  rw [if_pos ⟨h0, h1⟩]
  rfl

theorem optI_ok (hs : SatM φ ν m st a w) (ht : holdsTags ν own) {x : Option Operand} {n : Int} (h : optI st own x = some n) : (x = none ∧ n = 0) ∨ ∃ y k, x = some y ∧ a.eval y = .int k n := by
  cases x with
  | none => simp only [optI, Option.some.injEq] at h; exact .inl ⟨rfl, h.symm⟩
  | some y =>
    simp only [optI] at h
    split at h
    · rename_i k n' hy; cases h; exact .inr ⟨y, k, rfl, opndc_ok hs ht hy⟩
    · cases h
theorem optH_ok (hs : SatM φ ν m st a w) (ht : holdsTags ν own) {x : Option Operand} {n0 n : Int} (h : optH st own x n0 = some n) : (x = none ∧ n = n0) ∨ ∃ y k, x = some y ∧ a.eval y = .int k n := by
  cases x with
  | none => simp only [optH, Option.some.injEq] at h; exact .inl ⟨rfl, h.symm⟩
  | some y =>
    simp only [optH] at h
    split at h
    · rename_i k n' hy; cases h; exact .inr ⟨y, k, rfl, opndc_ok hs ht hy⟩
    · cases h

theorem run_sliceBounds (hs : SatM φ ν m st a w) (ht : holdsTags ν own) {isSl : Bool} {lo hi : Option Operand} {l0 h0 : Int} {len cap : Nat} (hlo : optI st own lo = some l0) (hhi : optH st own hi (len : Int) = some h0) (h1 : 0 ≤ l0) (h2 : l0 ≤ h0) (h3 : h0 ≤ (cap : Int)) :
    (Instr.sliceBounds isSl len cap (lo.map a.eval) (hi.map a.eval) none).run P w = .ok (l0.toNat, h0.toNat, cap) w := by
  have hH : h0 = (h0.toNat : Int) := by omega
  rcases optI_ok hs ht hlo with ⟨rfl, rfl⟩ | ⟨y, k, rfl, hy⟩ <;> rcases optH_ok hs ht hhi with ⟨rfl, h4⟩ | ⟨y2, k2, rfl, hy2⟩
  · simp [Instr.sliceBounds, h4]
  · simp [Instr.sliceBounds, run_bound hy2 (by omega) h3]
  · subst h4
    simp [Instr.sliceBounds, run_bound hy h1 h2]
  · simp [Instr.sliceBounds, run_bound hy2 (by omega) h3, run_bound hy h1 (show l0 ≤ (h0.toNat : Int) by omega)]

theorem sliceL_len {α : Type} {l : List α} {lo hi : Int} (h1 : 0 ≤ lo) (h2 : lo ≤ hi) (h3 : hi ≤ (l.length : Int)) : (sliceL l lo hi).length = hi.toNat - lo.toNat := by
  simp [sliceL]; omega

/-- A part of a row. -/
theorem LR.part {α : Type} {X : Nat → Nat → Prop} {n : Nat} {R : α → List Value → Prop} {l : List α} {ad : Addr} {cap : Nat} {lo hi : Int} (h1 : 0 ≤ lo) (h2 : lo ≤ hi) (h3 : hi ≤ (l.length : Int)) (hle : l.length ≤ cap) (hmax : cap ≤ maxLen)
    (hsp : l ≠ [] → ad.spot = none) (hr : RowsOk w X n R l ad.block ad.off) : LR w X n R (sliceL l lo hi) (.slice (some (if cap = lo.toNat then ad else ad.add (lo.toNat * n))) (hi.toNat - lo.toNat) (cap - lo.toNat)) := by
  have hl := sliceL_len h1 h2 h3
  refine .inr ⟨_, _, by rw [hl], by omega, by omega, fun hne => ?_, ?_⟩
  · have hpos : 0 < (sliceL l lo hi).length := List.length_pos_iff.2 hne
    have hl0 : l ≠ [] := by intro h0; subst h0; simp at h3; omega
    rw [if_neg (by omega)]
    obtain ⟨b, o', sp⟩ := ad
    have := hsp hl0
    simp only at this
    subst this
    rw [add_none]
  · by_cases hpos : 0 < (sliceL l lo hi).length
    · have hl0 : l ≠ [] := by intro h0; subst h0; simp at h3; omega
      rw [if_neg (by omega)]
      obtain ⟨b, o', sp⟩ := ad
      have := hsp hl0
      simp only at this
      subst this
      rw [add_none]
      refine ⟨fun i hi' => ?_, fun p hp1 hp2 => ?_⟩
      · obtain ⟨vs, h4, h5, h6⟩ := hr.1 (lo.toNat + i) (by omega)
        refine ⟨vs, h4, fun j hj => ?_, ?_⟩
        · have := h5 j hj
          simp only at this ⊢
          rw [← this]
          congr 2
          rw [Nat.add_mul]; omega
        · have : (sliceL l lo hi)[i] = l[lo.toNat + i]'(by omega) := by simp [sliceL]
          rw [this]; exact h6
      · refine hr.2 p ?_ ?_
        · simp only at hp1 ⊢; omega
        · simp only at hp1 hp2 ⊢
          rw [hl] at hp2
          have : (lo.toNat + (hi.toNat - lo.toNat)) * n ≤ l.length * n := Nat.mul_le_mul_right _ (by omega)
          rw [Nat.add_mul] at this
          omega
    · have h0 : (sliceL l lo hi).length = 0 := by omega
      exact ⟨fun i hi' => by omega, fun p hp1 hp2 => by rw [h0] at hp2; simp at hp2; omega⟩

theorem ok_slice {t : TypeId} {x : Operand} {lo hi mx : Option Operand} (hop : o.op = .slice t x lo hi mx) (h : At P C φ ν own W st o e m a w K) : o.wp P a w K Q := by
  have he := h.ev
  simp only [evOp, hop] at he
  split at he
  case h_2 => cases he
  rename_i d c l0 hD hx hlo
  obtain ⟨e0, hde, hkd, hpl⟩ := (h.ctx.D t d hD).desc
  unfold kindOk at hkd
  have hexec : ∀ {v : Value}, (Instr.sliceAt t (a.eval x) (lo.map a.eval) (hi.map a.eval) none).run P w = .ok v w → (execOp a.eval o).run P w = .ok (.value v) w := by
    intro v hv
    simp only [execOp, hop, Option.map_none, Sem.run_bind, hv, Result.andThen_ok, Sem.run_pure]
  have hv := opndc_ok h.sat h.tags hx
  -- of a slice
  have hsl : ∀ {el : TypeId} {t' : Ty} {ag : Bool} {ad : Option Addr} {n cap : Nat} {h0 : Int}, P.underlying t = some (.slice el) → InfoOk P el t' ag → a.eval x = .slice ad n cap → optH st own hi (n : Int) = some h0 → 0 ≤ l0 → l0 ≤ h0 → h0 ≤ (cap : Int) →
      (execOp a.eval o).run P w = .ok (.value (.slice (if cap = l0.toNat then ad else ad.map (·.add (l0.toNat * t'.n))) (h0.toNat - l0.toNat) (cap - l0.toNat))) w := by
    intro el t' ag ad n cap h0 hu hinfo hx hh h1 h2 h3
    refine hexec ?_
    unfold Instr.sliceAt
    simp only [Sem.run_bind, run_underlying hu, Result.andThen_ok]
    unfold Instr.slice
    simp only [Sem.run_bind, run_underlying hu, Result.andThen_ok, hx]
    rw [run_sliceBounds h.sat h.tags hlo hh h1 h2 h3, Result.andThen_ok]
    simp only [Sem.run_bind, run_sizeOf hinfo, Result.andThen_ok, Sem.run_pure]
  split at he
  · rename_i el e' ety tl l hk hty
    rw [hk] at hkd
    obtain ⟨_, rfl, t', ag, hty', hinfo⟩ := hkd
    rw [hty] at hty'
    cases hty'
    split at he
    case h_2 => cases he
    rename_i h0 hhi
    obtain ⟨hn, he⟩ := cnd_some he
    have hn := beq_eq hn
    obtain ⟨h1, h2, h3⟩ := h.need' he
    rcases hv.1 with ⟨rfl, hu⟩ | ⟨ad, cap, hu, hle, hmax, hsp, hr⟩
    · have hh : h0 = 0 ∧ l0 = 0 := by simp at h3; omega
      obtain ⟨rfl, rfl⟩ := hh
      refine h.out0 he (v := .slice none 0 0) ?_ ⟨.inl ⟨by simp [sliceL], rfl⟩, trivial⟩
      have := hsl hde hinfo hu hhi h1 h2 (by simp)
      rw [this]; rfl
    · have := hsl hde hinfo hu hhi h1 h2 (by omega)
      refine h.out0 he this ⟨?_, trivial⟩
      have hp := LR.part h1 h2 h3 hle hmax hsp hr
      rw [hn] at hp
      by_cases hcl : cap = l0.toNat
      · rw [if_pos hcl] at hp ⊢; rw [hn]; exact hp
      · rw [if_neg hcl] at hp ⊢; rw [hn]; exact hp
  · rename_i el e' ety k hk hty
    rw [hk] at hkd
    obtain ⟨_, rfl, t', ag, hty', hinfo⟩ := hkd
    rw [hty] at hty'
    cases hty'
    obtain ⟨b, p, hm, hp, hval⟩ := hv
    split at he
    · rename_i e2 l hbx
      split at he
      case h_2 => cases he
      rename_i h0 hhi
      obtain ⟨hn, he⟩ := cnd_some he
      obtain ⟨hn, hn2⟩ := andd_true hn
      have hn := beq_eq hn
      have hn2 := beq_eq hn2
      obtain ⟨h1, h2, h3⟩ := h.need' he
      obtain ⟨b', p', h4, h5⟩ := h.sat.box k _ hbx
      rw [hm] at h4
      cases h4
      rcases h5 with ⟨rfl, rfl⟩ | ⟨rfl, hr⟩
      · have hu : a.eval x = .slice none 0 0 := by
          rcases hval with ⟨_, hu⟩ | ⟨hne, _⟩
          · exact hu
          · exact absurd rfl hne
        have hh : h0 = 0 ∧ l0 = 0 := by simp at h3; omega
        obtain ⟨rfl, rfl⟩ := hh
        refine h.out0 he (v := .slice none 0 0) ?_ ⟨.inl ⟨by simp [sliceL], rfl⟩, trivial⟩
        have := hsl hde hinfo hu hhi h1 h2 (by simp)
        rw [this]; rfl
      · obtain ⟨cap, T, hu, hsh, hle, hmax⟩ : ∃ cap T, a.eval x = .slice (some ⟨b, 0, none⟩) l.length cap ∧ w.shape? b = some (T, cap * ety.n) ∧ l.length ≤ cap ∧ cap ≤ maxLen := by
          rcases hval with ⟨h6, _⟩ | ⟨_, cap, T, h6, h7, h8, h9⟩
          · omega
          · rw [vlen_dead] at h6 h8; exact ⟨cap, T, h6, h7, h8, h9⟩
        have := hsl hde hinfo hu hhi h1 h2 (by omega)
        refine h.out0 he this ⟨?_, trivial⟩
        have hq := LR.part (ad := ⟨b, 0, none⟩) h1 h2 h3 hle hmax (fun _ => rfl) hr
        by_cases hcl : cap = l0.toNat
        · rw [if_pos hcl] at hq ⊢; exact hq
        · rw [if_neg hcl] at hq ⊢; rw [show e'.n = e2.n by omega]; exact hq
    · rename_i ow T e2 l hbx
      split at he
      case h_2 => cases he
      rename_i hx2 h0 k2 hdst hhi
      split at he
      case h_2 => cases he
      rename_i hnone
      obtain ⟨hc, he2⟩ := cnd_some he
      obtain ⟨how, hc⟩ := andd_true hc
      obtain ⟨hz, hc⟩ := andd_true hc
      have hz : 1 ≤ ety.n := Nat.le_of_ble_eq_true hz
      obtain ⟨hn, hn2⟩ := andd_true hc
      have hn := beq_eq hn
      have hn2 := beq_eq hn2
      subst how
      have he := Option.some.inj he2
      obtain ⟨h1, h3⟩ := h.need _ (by rw [← he])
      have hl0 : l0 = 0 := by simpa [optI] using hlo.symm
      subst hl0
      obtain ⟨b', p', h4, h5⟩ := h.sat.box k _ hbx
      rw [hm] at h4
      cases h4
      rcases h5 with ⟨rfl, rfl⟩ | ⟨rfl, vs, cap, ⟨z9, hh, hz9⟩, hsz, hcap, hmax, hel⟩ | ⟨h5, _⟩
      · have hu : a.eval x = .slice none 0 0 := by
          rcases hval with ⟨_, hu⟩ | ⟨hne, _⟩
          · exact hu
          · exact absurd rfl hne
        have hh : h0 = 0 := by simp at h3; omega
        subst hh
        have := hsl hde hinfo hu hhi h1 (Int.le_refl _) (by simp)
        refine h.moveRow (j := k) (bx := .vec true T e2 (List.take (Int.toNat 0) [])) (tv := .v (.one (.vref ety k2))) (v := .slice none 0 0) (pd := 1) hdst hnone (by rw [← he]) (by rw [← he]) hbx hm hp (by rw [this]; rfl) keeps_same (fun _ _ => rfl) rfl ⟨rfl, rfl, rfl⟩ rfl (by omega)
          (fun m' h3 h4 h5 => ⟨_, _, h3, .inl ⟨by simp, rfl⟩⟩) (fun m' h3 => ⟨_, _, h3, by omega, .inl ⟨rfl, rfl⟩⟩)
      · obtain ⟨cap2, T2, hu, hsh⟩ : ∃ cap2 T2, a.eval x = .slice (some ⟨b, 0, none⟩) l.length cap2 ∧ w.shape? b = some (T2, cap2 * ety.n) := by
          rcases hval with ⟨h6, _⟩ | ⟨_, cap2, T2, h6, h7, _⟩
          · omega
          · rw [vlen_live] at h6; exact ⟨cap2, T2, h6, h7⟩
        have hlen : (l.take h0.toNat).length = h0.toNat := by rw [List.length_take]; omega
        · have hcc : cap2 = cap := by
            have : w.shape? b = some (T, vs.size) := by unfold World.shape?; rw [hh]
            rw [this] at hsh
            simp only [Option.some.injEq, Prod.mk.injEq] at hsh
            have : cap * ety.n = cap2 * ety.n := by rw [← hn2, ← hsz, hsh.2, hn2]
            exact (Nat.eq_of_mul_eq_mul_right (by omega) this).symm
          subst hcc
          have := hsl hde hinfo hu hhi (Int.le_refl _) h1 (by omega)
          have hv2 : (if cap2 = (0 : Int).toNat then some (⟨b, 0, none⟩ : Addr) else (some (⟨b, 0, none⟩ : Addr)).map (·.add ((0 : Int).toNat * e'.n))) = some ⟨b, 0, none⟩ := by
            split
            · rfl
            · simp [add_none]
          rw [hv2] at this
          refine h.moveRow (j := k) (bx := .vec true T e2 (l.take h0.toNat)) (tv := .v (.one (.vref ety k2))) (pd := 2 * h0.toNat + 2) hdst hnone (by rw [← he]) (by rw [← he]) hbx hm hp this keeps_same (fun _ _ => rfl) rfl ⟨rfl, rfl, rfl⟩ (by omega) (by omega)
            (fun m' h3 h4 h5 => ⟨_, _, h3, .inr (.inl ⟨by rw [hlen], vs, cap2, ⟨z9, hh, hz9⟩, hsz, by rw [hlen]; omega, hmax, fun i hi => ?_⟩)⟩)
            (fun m' h3 => ⟨_, _, h3, by omega, .inr ⟨by omega, cap2, T2, by rw [vlen_live]; simp, hsh, by rw [vlen_live]; omega, hmax⟩⟩)
          have : (l.take h0.toNat)[i] = l[i]'(by rw [hlen] at hi; omega) := by rw [List.getElem_take]
          rw [this]
          exact (hel i (by rw [hlen] at hi; omega)).mono keeps_same h5 _ _ _
      · cases h5
    · cases he
  · rename_i s hk hty
    split at he
    case h_2 => cases he
    rename_i h0 hag hhi
    obtain ⟨h1, h2, h3⟩ := h.need' he
    have hpl := hpl hag
    rw [hty] at hpl
    simp only [plainOk] at hpl
    subst hpl
    have hu : a.eval x = .string s := hv
    refine h.out0 he (hexec ?_) rfl
    unfold Instr.sliceAt
    simp only [Sem.run_bind, run_underlying hde, Result.andThen_ok]
    unfold Instr.slice
    simp only [Sem.run_bind, run_underlying hde, Result.andThen_ok, hu, Option.isSome_none, Bool.false_eq_true, if_false]
    simp only [Sem.run_pure, Result.andThen_ok]
    rw [run_sliceBounds h.sat h.tags hlo hhi h1 h2 h3, Result.andThen_ok]
  · cases he

theorem ok_convert {s d : TypeId} {x : Operand} (hop : o.op = .convert s d x) (h : At P C φ ν own W st o e m a w K) : o.wp P a w K Q := by
  have he := h.ev
  simp only [evOp, hop] at he
  split at he
  · rename_i k0 k k1 n hs hd hx
    have hc : a.eval x = .int k1 n := opndc_ok h.sat h.tags hx
    obtain ⟨d1, h1, h1p⟩ := plainTy_spec h.ctx hs
    obtain ⟨d2, h2, h2p⟩ := plainTy_spec h.ctx hd
    simp only [plainOk] at h1p h2p
    subst h1p h2p
    refine h.out0 he (v := .int k (k.wrap n)) ?_ rfl
    simp only [execOp, hop, hc, convert, Sem.run_bind, run_underlying h1, run_underlying h2, Result.andThen_ok, Conv.intToInt, Sem.run_pure]
  · rename_i k0 k k1 n hs hd hx
    have hc : a.eval x = .int k1 n := opndc_ok h.sat h.tags hx
    obtain ⟨d1, h1, h1p⟩ := plainTy_spec h.ctx hs
    obtain ⟨d2, h2, h2p⟩ := plainTy_spec h.ctx hd
    simp only [plainOk] at h1p h2p
    subst h1p h2p
    refine h.out0 he (v := .float k (k.nearest n)) ?_ rfl
    simp only [execOp, hop, hc, convert, Sem.run_bind, run_underlying h1, run_underlying h2, Result.andThen_ok, Conv.intToFloat, Sem.run_pure]
  · rename_i e0 cx hs hd hx
    split at he
    case h_2 => cases he
    rename_i l hby hl
    obtain ⟨d2, h2, h2p⟩ := plainTy_spec h.ctx hd
    simp only [plainOk] at h2p
    subst h2p
    unfold bytesTy at hby
    split at hby
    case h_2 => cases hby
    rename_i d0 hD
    split at hby
    case h_2 => cases hby
    rename_i el hk
    split at hby
    case h_2 => cases hby
    rename_i hel
    obtain ⟨e1, he1, hk1, _⟩ := (h.ctx.D _ _ hD).desc
    unfold kindOk at hk1
    rw [hk] at hk1
    obtain ⟨_, rfl, _⟩ := hk1
    obtain ⟨e2, he2, he2p⟩ := plainTy_spec h.ctx hel
    simp only [plainOk] at he2p
    subst he2p
    refine h.out0 he (v := .string (bts l)) ?_ rfl
    have hrow := apNew_rows h.sat hl (opndc_ok h.sat h.tags hx)
    have hrun : ∀ (ad : Option Addr) (n cap : Nat), a.eval x = .slice ad n cap → (Conv.bytesToString (.slice ad n cap)).run P w = .ok (.string (bts l)) w → (execOp a.eval o).run P w = .ok (.value (.string (bts l))) w := by
      intro ad n cap hu hb
      simp only [execOp, hop, hu, Sem.run_bind, run_convert_bytes_string w _ _ _ ad n cap he1 he2 h2, hb, Result.andThen_ok, Sem.run_pure]
    rcases hrow with ⟨rfl, hu⟩ | ⟨ad, cap, hu, hsp, hr⟩
    · exact hrun _ _ _ hu (by unfold Conv.bytesToString; rfl)
    · refine hrun _ _ _ hu (run_bytesToString w ad l.length cap l ?_)
      have hnews : ∀ j u, ((l.map (Value.int .u8))[j]? = some u) → w.cell? (ad.add j) = some u := by
        intro j u hju
        simp only [List.getElem?_map, Option.map_eq_some_iff] at hju
        obtain ⟨n, hn, rfl⟩ := hju
        have hj : j < l.length := (List.getElem?_eq_some_iff.1 hn).1
        have hne : l ≠ [] := by intro h0; subst h0; simp at hj
        obtain ⟨vs, hvl, hvc, hvr⟩ := hr j hj
        have hvr : vs = [.int .u8 l[j]] := hvr
        have hc := hvc 0 (by simp [Ty.n])
        have hsp := hsp hne
        obtain ⟨b, o', sp⟩ := ad
        simp only at hsp
        subst hsp
        rw [add_none]
        simp only [Ty.n, Nat.mul_one, Nat.add_zero] at hc
        rw [hc, hvr]
        have : l[j] = n := by
          have := List.getElem?_eq_getElem hj
          rw [this] at hn
          exact Option.some.inj hn
        rw [this]
        rfl
      have := run_loadCells_list (P := P) w ad (l.map (Value.int .u8)) hnews
      simpa using this
  · rename_i ety sx hs hd hx
    split at he
    case h_2 => cases he
    rename_i dd k hD hdst
    split at he
    case h_2 => cases he
    rename_i el l hk hnone hby hl
    simp only [Option.some.injEq] at he
    have hneed := h.need _ (by rw [← he])
    obtain ⟨rfl, hl⟩ := castL_eq hl
    simp only at hl
    subst hl
    have hc : a.eval x = .string sx := opndc_ok h.sat h.tags hx
    obtain ⟨d1, h1, h1p⟩ := plainTy_spec h.ctx hs
    simp only [plainOk] at h1p
    subst h1p
    unfold bytesTy at hby
    split at hby
    case h_2 => cases hby
    rename_i d0 hD0
    rw [hD] at hD0
    simp only [Option.some.injEq] at hD0
    subst hD0
    split at hby
    case h_2 => cases hby
    rename_i el' hk'
    rw [hk] at hk'
    cases hk'
    split at hby
    case h_2 => cases hby
    rename_i hel
    obtain ⟨e1, he1, hk1, _⟩ := (h.ctx.D _ _ hD).desc
    unfold kindOk at hk1
    rw [hk] at hk1
    obtain ⟨_, rfl, _⟩ := hk1
    obtain ⟨e2, he2, he2p⟩ := plainTy_spec h.ctx hel
    simp only [plainOk] at he2p
    subst he2p
    have hmax : grownCap w sx.size 0 el ≤ maxLen := grownCap_le_maxLen w sx.size 0 el (by unfold maxLen; omega)
    have hge : sx.size ≤ grownCap w sx.size 0 el := grownCap_ge w sx.size 0 el
    have hvs : (Lib.bytesCells w el sx).size = grownCap w sx.size 0 el := by
      have : sx.data.size = sx.size := rfl
      simp [Lib.bytesCells, this]; omega
    have hnew := Lib.bytesWorld_at_new w el sx
    have hb : Below w.heap.size w (Lib.bytesWorld w el sx) :=
      ⟨rfl, rfl, rfl, by rw [Lib.bytesWorld_size]; omega, fun k hk => Lib.bytesWorld_at_old w el sx k hk⟩
    refine h.newRow (kl := none) (tv := .v (.one (.vref (.int .u8) k))) (bx := .vec true el (.int .u8) (stb sx)) (p := 2 * sx.size + 2) (b := w.heap.size) (v := .slice (some ⟨w.heap.size, 0, none⟩) sx.size (grownCap w sx.size 0 el)) hdst hnone (by rw [← he]) (by rw [← he]; rfl) (fun j hj => by cases hj)
      (by simp only [execOp, hop, hc, Sem.run_bind, Lib.run_convert_string_bytes w s d el sx h1 he1 he2, Result.andThen_ok, Sem.run_pure]) hb (fun _ => ⟨Nat.le_refl _, by rw [Lib.bytesWorld_size]; omega⟩)
      (fun m' h4 h5 h6 => ⟨_, _, h4, .inr (.inl ⟨by rw [stb_length], _, grownCap w sx.size 0 el, ⟨_, hnew, .inr rfl⟩, by rw [hvs]; simp [Ty.n], by rw [stb_length]; exact hge, hmax, fun i hi => ?_⟩)⟩)
      (fun m' h4 => ⟨_, _, h4, by omega, .inr ⟨by omega, grownCap w sx.size 0 el, el, by rw [vlen_live], by unfold World.shape?; rw [hnew]; simp [hvs, Ty.n], by rw [vlen_live]; exact hge, hmax⟩⟩)
    rw [stb_length] at hi
    show List.take 1 ((Lib.bytesCells w el sx).toList.drop (i * 1)) = [Value.int .u8 (stb sx)[i]]
    have hlen : i < (Lib.bytesCells w el sx).toList.length := by rw [Array.length_toList, hvs]; omega
    rw [Nat.mul_one, List.drop_eq_getElem_cons hlen]
    have hi2 : i < sx.data.size := hi
    have h7 : (Lib.bytesCells w el sx).toList[i] = Value.int .u8 (stb sx)[i] := by
      simp only [Lib.bytesCells, stb, Array.toList_append, Array.toList_map, Array.toList_replicate]
      rw [List.getElem_append_left (by simpa using hi2)]
      simp
    rw [h7]; rfl
  · cases he

theorem boxKs_vals {X : Nat → Nat → Prop} {xs : List SV} {vs : List Value} {ks : List Nat} (h : boxKs xs = some ks) (ha : All2 (SR m X w) xs vs) : All2 (fun k v => ∃ b, m k = some (b, 0) ∧ v = .pointer (some ⟨b, 0, none⟩)) ks vs := boxKs_ok h ha
theorem ok_makeFunc {f : Fn} {first caps : Array Operand} (hop : o.op = .makeFunc f first caps) (h : At P C φ ν own W st o e m a w K) : o.wp P a w K Q := by
  have he := h.ev
  cases f with
  | func g =>
    simp only [evOp, hop] at he
    split at he
    case h_2 => cases he
    rename_i xs hfirst hxs
    split at he
    case h_2 => cases he
    rename_i ks hks
    have hall := boxKs_ok hks (allSV_ok h.sat h.tags hxs)
    have hf : first = #[] := by apply Array.ext'; simpa using hfirst
    subst hf
    refine h.out0 he (v := .func (.func g) #[] (caps.toList.map a.eval).toArray) ?_ ⟨_, rfl, hall⟩
    simp only [execOp, hop, Instr.makeFunc, Sem.run_bind, Sem.run_pure, Result.andThen_ok]
    rw [show Array.map a.eval caps = (List.map a.eval caps.toList).toArray from by apply Array.ext'; simp]
    simp
  | _ => simp only [evOp, hop] at he; cases he

/-- Every operation that the evaluator takes. -/
theorem op_ok (h : At P C φ ν own W st o e m a w K) : o.wp P a w K Q := by
  cases hop : o.op with
  | move x => exact ok_move hop h
  | assign x => exact ok_assign hop h
  | pick c x y => exact ok_pick hop h
  | alloc t => exact ok_alloc hop h
  | box t x => exact ok_box hop h
  | build t ps => exact ok_build hop h
  | buildSlice t n ps => exact ok_buildSlice hop h
  | load t x => exact ok_load hop h
  | store t x y => exact ok_store hop h
  | nilCheck x => exact ok_nilCheck hop h
  | binOp op t x y yt => exact ok_binOp hop h
  | unOp op t x => exact ok_unOp hop h
  | convert s d x => exact ok_convert hop h
  | fieldAddr t x f => exact ok_fieldAddr hop h
  | field t x f => exact ok_field hop h
  | indexAddr t x i => exact ok_indexAddr hop h
  | index t x i => exact ok_index hop h
  | extract x i => exact ok_extract hop h
  | makeSlice t x y => exact ok_makeSlice hop h
  | slice t x lo hi mx => exact ok_slice hop h
  | call c => exact ok_call hop h
  | makeFunc f x y => exact ok_makeFunc hop h
  | _ => have he := h.ev; simp only [evOp, hop] at he; cases he
end
end Go.Proofs.Ytghlpolodjlgjaa.Sy
