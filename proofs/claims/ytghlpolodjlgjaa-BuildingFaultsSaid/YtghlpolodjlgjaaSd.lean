/- The symbolic evaluator is sound: regions that draw their order (own work). -/
import Derived.Test.YtghlpolodjlgjaaSc
namespace Go.Proofs.Ytghlpolodjlgjaa.Sy
open Go Go.RowKit
set_option linter.unusedVariables false
set_option linter.unusedSimpArgs false

section
variable {φ : Fr} {ν ν' : Nat → Bool} {m : Map} {st : ASt} {a : Act} {w w' : World} {own : List (Nat × Bool)} {W : List Nat} {P : Program} {C : Ctx} {o : Oper} {e : Eff}
  {K : Act → World → Prop} {Q : Exit → Act → World → Prop}

/-- One operation of a region. -/
theorem step_ok (hC : CtxOk P C) (hφ : FrOk C.G φ) (ops : List Oper) (hoD : ∀ d, o.dst = some d → d < φ.n ∧ φ.D d = true) {k : Nat} (hko : ops[k]? = some o)
    (hown : ownOf ops W st o = some own) (he : evOp C own W st o = some e) (hdst : dstOk e.dst o.dst = true) (hgb : nott (andd (isGuarded o) (match e.bxs with | [] => false | _ => true)) = true)
    (hoW : ∀ d, o.dst = some d → d ∉ W)
    (hn : ∀ p, e.need = some p → (∀ d b, (d, b) ∈ own → ∀ g c, st.slot d = some g → g.tv = .v (.one (.bool c)) → c = b) → p)
    (hr : RegM φ ν m W st a w)
    (hrest : ∀ a' w' ν', (∃ m', RegM φ ν' m' (consO o.dst W) (e.apply own st) a' w') → K a' w') : wpOp P ops.toArray Q k K a w := by
  have hownW : ∀ x ∈ own, x.1 ∈ W := by
    intro x hx
    unfold ownOf at hown
    split at hown
    · cases hown; cases hx
    · split at hown
      case h_2 => cases hown
      rename_i d hjd
      split at hown
      case h_2 => cases hown
      rename_i tg c hsl
      obtain ⟨hmem, hown⟩ := cnd_some hown
      simp only [Option.some.injEq] at hown
      subst hown
      rcases List.mem_cons.1 hx with rfl | hx
      · exact mem_spec.1 hmem
      · exact hr.tags d _ hsl x hx
  let ν' : Nat → Bool := match e.dst with | some (d, tv) => fun x => if x = d then boolOf tv else ν x | none => ν
  have hν' : ∀ x, x ∈ W → ν x = ν' x := by
    intro x hx
    show ν x = (match e.dst with | some (d, tv) => fun x => if x = d then boolOf tv else ν x | none => ν) x
    rcases dstOk_spec hdst with ⟨h1, _⟩ | ⟨d, tv, h1, h2⟩
    · rw [h1]
    · rw [h1]
      have : x ≠ d := fun e => hoW d h2 (e ▸ hx)
      simp [this]
  have hsat' : SatM φ ν' m st a w := hr.sat.re fun t g hg x hx => hν' _ (hr.tags t g hg x hx)
  have hyes' : ∀ d, d ∈ W → ∀ g c, st.slot d = some g → g.tv = .v (.one (.bool c)) → ν' d = c := fun d hd g c h1 h2 => (hν' d hd).symm.trans (hr.yes d hd g c h1 h2)
  have hreg : ∀ m' a' w', SatM φ ν' m' (e.apply own st) a' w' → RegM φ ν' m' (consO o.dst W) (e.apply own st) a' w' := by
    intro m' a' w' hs
    rcases dstOk_spec hdst with ⟨h1, h2⟩ | ⟨d, tv, h1, h2⟩
    · refine ⟨hs, fun t g hg x hx => ?_, fun t ht g c hg hgc => ?_⟩
      · rw [apply_slot_none h1] at hg; rw [h2]; exact hr.tags t g hg x hx
      · rw [apply_slot_none h1] at hg; rw [h2] at ht; exact hyes' t ht g c hg hgc
    · have hsl : ∀ t, (e.apply own st).slot t = if t = d then some ⟨own, tv⟩ else st.slot t := by
        intro t
        obtain ⟨nn, dd, bb⟩ := e
        simp only at h1
        subst h1
        exact apply_slot
      refine ⟨hs, fun t g hg x hx => ?_, fun t ht g c hg hgc => ?_⟩
      · rw [hsl] at hg
        rw [h2]
        by_cases htd : t = d
        · rw [if_pos htd] at hg; cases hg; exact List.mem_cons_of_mem _ (hownW x hx)
        · rw [if_neg htd] at hg; exact List.mem_cons_of_mem _ (hr.tags t g hg x hx)
      · rw [hsl] at hg
        by_cases htd : t = d
        · rw [if_pos htd] at hg
          cases hg
          simp only at hgc
          show (match e.dst with | some (d, tv) => fun x => if x = d then boolOf tv else ν x | none => ν) t = c
          rw [h1, hgc]
          simp [htd, boolOf]
        · rw [if_neg htd] at hg
          rw [h2] at ht
          rcases List.mem_cons.1 ht with h3 | h3
          · exact absurd h3 htd
          · exact hyes' t h3 g c hg hgc
  have hrest' : ∀ a' w', Sat φ ν' (e.apply own st) a' w' → K a' w' := fun a' w' ⟨m', hs⟩ => hrest a' w' ν' ⟨m', hreg m' a' w' hs⟩
  have hneed : holdsTags ν' own → ∀ p, e.need = some p → p := by
    intro ht p hp
    refine hn p hp fun d b hm g c hg hgc => ?_
    have h2 := hyes' d (hownW _ hm) g c hg hgc
    have h3 := ht _ hm
    simp only at h3
    rw [← h2, h3]
  unfold wpOp
  have hko' : ops.toArray[k]? = some o := by simpa using hko
  simp only [hko']
  by_cases ht : holdsTags ν' own
  · have hw : Region.wanted o (yielded ops.toArray a.tmps) = true := by
      unfold Region.wanted
      unfold ownOf at hown
      split at hown
      · rename_i hg; simp [hg]
      · rename_i j b hg
        split at hown
        case h_2 => cases hown
        rename_i d hjd
        split at hown
        case h_2 => cases hown
        rename_i tg c hsl
        obtain ⟨hmem, hown⟩ := cnd_some hown
        simp only [Option.some.injEq] at hown
        subst hown
        have hv : a.tmps.getD d undef = .bool c := hsat'.slot d _ hsl (fun x hx => ht x (List.mem_cons_of_mem _ hx))
        have hb : ν' d = b := ht (d, b) (by simp)
        have hcb : ν' d = c := hyes' d (mem_spec.1 hmem) _ c hsl rfl
        have hy : yielded ops.toArray a.tmps j = some c := by
          unfold yielded
          have : (ops.toArray[j]?).bind (·.dst) = some d := by simpa using hjd
          rw [this]
          simp only [Option.bind_some]
          rw [Array.getD_eq_getD_getElem?] at hv
          cases hq : a.tmps[d]? with
          | none => rw [hq] at hv; cases hv
          | some u => rw [hq] at hv; simp only [Option.getD_some] at hv; rw [hv]
        simp only [hg, hy]
        rw [← hcb, hb]
        simp
    rw [if_pos hw]
    refine .inl (op_ok (C := C) (φ := φ) (ν := ν') (own := own) (W := W) (st := st) (e := e) (m := m) ⟨hC, hφ, he, hneed ht, ht, hyes', hsat', hoD, hrest'⟩)
  · have hg : ∃ j b, o.guard = some (j, b) := by
      cases hgd : o.guard with
      | none => unfold ownOf at hown; rw [hgd] at hown; simp only [Option.some.injEq] at hown; subst hown; exact absurd (fun x hx => by cases hx) ht
      | some x => exact ⟨x.1, x.2, rfl⟩
    obtain ⟨j, b, hg⟩ := hg
    have hbx : e.bxs = [] := by
      have h1 := nott_true hgb
      unfold isGuarded at h1
      rw [hg] at h1
      simp only [andd] at h1
      split at h1
      · assumption
      · cases h1
    have hw : Region.wanted o (yielded ops.toArray a.tmps) = false := by
      unfold Region.wanted
      unfold ownOf at hown
      rw [hg] at hown
      simp only at hown
      split at hown
      case h_2 => cases hown
      rename_i d hjd
      split at hown
      case h_2 => cases hown
      rename_i tg c hsl
      obtain ⟨hmem, hown⟩ := cnd_some hown
      simp only [Option.some.injEq] at hown
      subst hown
      have hjd' : (ops.toArray[j]?).bind (·.dst) = some d := by simpa using hjd
      simp only [hg]
      by_cases htg : holdsTags ν' tg
      · have hv : a.tmps.getD d undef = .bool c := hsat'.slot d _ hsl htg
        have hcb : ν' d = c := hyes' d (mem_spec.1 hmem) _ c hsl rfl
        have hne : ν' d ≠ b := fun hb => ht fun x hx => by
          rcases List.mem_cons.1 hx with rfl | hx
          · exact hb
          · exact htg x hx
        have hy : yielded ops.toArray a.tmps j = some c := by
          unfold yielded
          rw [hjd']
          simp only [Option.bind_some]
          rw [Array.getD_eq_getD_getElem?] at hv
          cases hq : a.tmps[d]? with
          | none => rw [hq] at hv; cases hv
          | some u => rw [hq] at hv; simp only [Option.getD_some] at hv; rw [hv]
        rw [hy, ← hcb]
        simpa using hne
      · have hv : a.tmps.getD d undef = undef := hsat'.skip d _ hsl htg
        have hy : yielded ops.toArray a.tmps j = none := by
          unfold yielded
          rw [hjd']
          simp only [Option.bind_some]
          rw [Array.getD_eq_getD_getElem?] at hv
          cases hq : a.tmps[d]? with
          | none => rfl
          | some u => rw [hq] at hv; simp only [Option.getD_some] at hv; rw [hv]; rfl
        rw [hy]; rfl
    rw [if_neg (by rw [hw]; simp)]
    rcases dstOk_spec hdst with ⟨h1, h2⟩ | ⟨d, tv, h1, h2⟩
    · rw [h2]
      refine hrest' _ _ ⟨m, ?_⟩
      obtain ⟨nn, dd, bb⟩ := e
      simp only at h1 hbx
      subst h1 hbx
      exact hsat'
    · rw [h2]
      refine hrest' _ _ ⟨m, ?_⟩
      obtain ⟨nn, dd, bb⟩ := e
      simp only at h1 hbx
      subst h1 hbx
      exact hsat'.skipOp (hoD d h2).1 (hoD d h2).2 ht

/-! ### Bits -/
theorem tb_eq (A i : Nat) : tb A i = A.testBit i := by
  unfold tb Nat.testBit
  rw [Nat.and_comm]
  show Nat.beq (A >>> i &&& 1) 1 = (A >>> i &&& 1 != 0)
  rw [Nat.and_one_is_mod]
  rcases Nat.mod_two_eq_zero_or_one (A >>> i) with h | h <;> rw [h] <;> rfl
theorem tb_zero (i : Nat) : tb 0 i = false := by rw [tb_eq]; exact Nat.zero_testBit i
theorem tb_lor (A B i : Nat) : tb (Nat.lor A B) i = (tb A i || tb B i) := by
  simp only [tb_eq]; exact Nat.testBit_or A B i
theorem tb_one (j i : Nat) : tb (Nat.shiftLeft 1 j) i = decide (j = i) := by
  rw [tb_eq]
  show (1 <<< j).testBit i = _
  rw [Nat.one_shiftLeft, Nat.testBit_two_pow]

/-! ### What stands ahead -/
structure AncAt (o : Oper) (acc : List Nat) (j : Nat) : Prop where
  why : ∀ i, tb (acc.getD j 0) i = true → ∃ x ∈ o.after, Region.binds .any x = true ∧ x.on < j ∧ (x.on = i ∨ tb (acc.getD x.on 0) i = true)
  deps : ∀ x ∈ o.after, Region.binds .any x = true → x.on < j ∧ tb (acc.getD j 0) x.on = true

theorem bindsA_eq (e : Edge) : bindsA e = Region.binds .any e := by unfold bindsA Region.binds; cases e.ground <;> rfl

theorem ancOf_ok {k : Nat} {acc : List Nat} : ∀ {es : List Edge} {A : Nat}, ancOf k acc es = some A →
    (∀ i, tb A i = true → ∃ x ∈ es, Region.binds .any x = true ∧ x.on < k ∧ (x.on = i ∨ tb (acc.getD x.on 0) i = true)) ∧ (∀ x ∈ es, Region.binds .any x = true → x.on < k ∧ tb A x.on = true)
  | [], A, h => by
    simp only [ancOf, Option.some.injEq] at h; subst h
    exact ⟨fun i hi => (by rw [tb_zero] at hi; cases hi), fun x hx => (by cases hx)⟩
  | e :: r, A, h => by
    simp only [ancOf] at h
    split at h
    case h_2 => cases h
    rename_i B hB
    obtain ⟨ih1, ih2⟩ := ancOf_ok hB
    cases hb : bindsA e with
    | false =>
      rw [hb] at h; simp only [cnd, Option.some.injEq] at h; subst h
      rw [bindsA_eq] at hb
      refine ⟨fun i hi => ?_, fun x hx hbx => ?_⟩
      · obtain ⟨x, hx, h⟩ := ih1 i hi; exact ⟨x, List.mem_cons_of_mem _ hx, h⟩
      · rcases List.mem_cons.1 hx with rfl | hx
        · rw [hb] at hbx; cases hbx
        · exact ih2 x hx hbx
    | true =>
      rw [hb] at h; simp only [cnd] at h
      split at h
      case h_2 => cases h
      rename_i hlt
      simp only [Option.some.injEq] at h; subst h
      have hlt : e.on < k := Nat.le_of_ble_eq_true hlt
      rw [bindsA_eq] at hb
      refine ⟨fun i hi => ?_, fun x hx hbx => ?_⟩
      · rw [tb_lor, tb_lor, tb_one] at hi
        simp only [Bool.or_eq_true, decide_eq_true_eq] at hi
        rcases hi with hi | hi | hi
        · obtain ⟨x, hx, h⟩ := ih1 i hi; exact ⟨x, List.mem_cons_of_mem _ hx, h⟩
        · exact ⟨e, by simp, hb, hlt, .inl hi⟩
        · exact ⟨e, by simp, hb, hlt, .inr hi⟩
      · rw [tb_lor, tb_lor, tb_one]
        rcases List.mem_cons.1 hx with rfl | hx
        · exact ⟨hlt, by simp⟩
        · exact ⟨(ih2 x hx hbx).1, by simp [(ih2 x hx hbx).2]⟩

theorem getD_app {acc : List Nat} {A j : Nat} (h : j < acc.length) : (app acc [A]).getD j 0 = acc.getD j 0 := by
  rw [app_eq]; simp [List.getD_eq_getElem?_getD, List.getElem?_append_left h]

theorem AncAt.app {acc : List Nat} {A j : Nat} (hj : j < acc.length) (h : AncAt o acc j) : AncAt o (Sy.app acc [A]) j where
  why := by
    intro i hi
    rw [getD_app hj] at hi
    obtain ⟨x, h1, h2, h3, h4⟩ := h.why i hi
    exact ⟨x, h1, h2, h3, by rw [getD_app (by omega)]; exact h4⟩
  deps := by intro x hx hb; rw [getD_app hj]; exact h.deps x hx hb

theorem ancAll_ok : ∀ {r pre : List Oper} {acc anc : List Nat}, ancAll r acc.length acc = some anc → pre.length = acc.length → (∀ j o, pre[j]? = some o → AncAt o acc j) →
    ∀ j o, (pre ++ r)[j]? = some o → AncAt o anc j
  | [], pre, acc, anc, h, hl, hp => by
    simp only [ancAll, Option.some.injEq] at h; subst h
    intro j o hj; exact hp j o (by simpa using hj)
  | o :: r, pre, acc, anc, h, hl, hp => by
    simp only [ancAll] at h
    split at h
    case h_2 => cases h
    rename_i A hA
    obtain ⟨h1, h2⟩ := ancOf_ok hA
    have hlen : Nat.succ acc.length = (app acc [A]).length := by rw [app_eq]; simp
    rw [hlen] at h
    have := ancAll_ok (pre := pre ++ [o]) h (by rw [app_eq]; simp [hl]) (fun j o' hj => ?_)
    · intro j o' hj; exact this j o' (by simpa using hj)
    · rcases Nat.lt_or_ge j pre.length with hjl | hjl
      · rw [List.getElem?_append_left hjl] at hj
        exact (hp j o' hj).app (by omega)
      · have : j = pre.length := by
          have := (List.getElem?_eq_some_iff.1 hj).1
          simp at this; omega
        subst this
        simp at hj
        subst hj
        have hA' : (app acc [A]).getD pre.length 0 = A := by rw [app_eq, hl]; simp [List.getD_eq_getElem?_getD]
        exact {
          why := by
            intro i hi
            rw [hA'] at hi
            obtain ⟨x, hx, hb, hlt, h⟩ := h1 i hi
            exact ⟨x, by simpa using hx, hb, by omega, by rw [getD_app (by omega)]; exact h⟩
          deps := by
            intro x hx hb
            rw [hA']
            have := h2 x (by simpa using hx) hb
            exact ⟨by omega, this.2⟩ }

/-! ### The effects of some operations -/
theorem cnd_if {α : Type} {a b : Nat} {x y : α} : cnd (Nat.beq a b) x y = if a = b then x else y := by
  by_cases h : a = b
  · rw [cnd_beq_true h, if_pos h]
  · rw [cnd_beq_false h, if_neg h]

def keyOf (e : Eff) (b : Nat) : Prop := ∃ x ∈ e.bxs, x.1 = b

theorem apply_slot_ne {t : Nat} (h : ∀ d tv, e.dst = some (d, tv) → d ≠ t) : (e.apply own st).slot t = st.slot t := by
  unfold Eff.apply
  cases hd : e.dst with
  | none => rfl
  | some x =>
    obtain ⟨d, tv⟩ := x
    simp only [cnd_if]
    rw [if_neg (fun h1 => h d tv hd h1.symm)]
theorem apply_slot_congr {t : Nat} {s1 s2 : ASt} (h : s1.slot t = s2.slot t) : (e.apply own s1).slot t = (e.apply own s2).slot t := by
  unfold Eff.apply
  cases hd : e.dst with
  | none => exact h
  | some x => simp only [h]
theorem applyB_ne {b : Nat} {f : Nat → Option Bx} : ∀ {bs : List (Nat × Option Bx)}, (∀ x ∈ bs, x.1 ≠ b) → applyB bs f b = f b
  | [], _ => rfl
  | (k, x) :: r, h => by
    simp only [applyB]
    rw [cnd_if, if_neg (fun e => h (k, x) (by simp) e.symm)]
    exact applyB_ne fun y hy => h y (by simp [hy])
theorem applyB_congr {b : Nat} {f g : Nat → Option Bx} (h : f b = g b) : ∀ {bs : List (Nat × Option Bx)}, applyB bs f b = applyB bs g b
  | [] => h
  | (k, x) :: r => by simp only [applyB, applyB_congr h]
theorem applyB_in {b : Nat} {f g : Nat → Option Bx} : ∀ {bs : List (Nat × Option Bx)}, (∃ x ∈ bs, x.1 = b) → applyB bs f b = applyB bs g b
  | [], h => by obtain ⟨x, hx, _⟩ := h; cases hx
  | (k, x) :: r, h => by
    simp only [applyB, cnd_if]
    split
    · rfl
    · rename_i hb
      refine applyB_in ?_
      obtain ⟨y, hy, hyb⟩ := h
      rcases List.mem_cons.1 hy with rfl | hy
      · exact absurd hyb.symm hb
      · exact ⟨y, hy, hyb⟩
theorem apply_box_ne {b : Nat} (h : ¬ keyOf e b) : (e.apply own st).box b = st.box b := applyB_ne fun x hx hb => h ⟨x, hx, hb⟩
theorem apply_box_congr {b : Nat} {s1 s2 : ASt} (h : s1.box b = s2.box b) : (e.apply own s1).box b = (e.apply own s2).box b := applyB_congr h

variable {u v : Nat → Bool}

theorem applyM_slot {t : Nat} : ∀ (l : List ER) (k : Nat) (s1 s2 : ASt), s1.slot t = s2.slot t → (∀ i x, l[i]? = some x → u (k + i) = v (k + i) ∨ ∀ d tv, x.eff.dst = some (d, tv) → d ≠ t) →
    (applyM u k l s1).slot t = (applyM v k l s2).slot t
  | [], _, _, _, h, _ => h
  | x :: l, k, s1, s2, h, hx => by
    refine applyM_slot l (Nat.succ k) _ _ ?_ (fun i y hy => ?_)
    · rcases hx 0 x rfl with h1 | h1
      · rw [Nat.add_zero] at h1
        rw [h1]
        cases v k with
        | true => exact apply_slot_congr h
        | false => exact h
      · cases u k <;> cases v k <;> simp only [cnd, apply_slot_ne h1, h]
    · have := hx (i + 1) y (by simpa using hy)
      rw [show Nat.succ k + i = k + (i + 1) by omega]
      exact this
theorem applyM_box {b : Nat} : ∀ (l : List ER) (k : Nat) (s1 s2 : ASt), s1.box b = s2.box b → (∀ i x, l[i]? = some x → u (k + i) = v (k + i) ∨ ¬ keyOf x.eff b) →
    (applyM u k l s1).box b = (applyM v k l s2).box b
  | [], _, _, _, h, _ => h
  | x :: l, k, s1, s2, h, hx => by
    refine applyM_box l (Nat.succ k) _ _ ?_ (fun i y hy => ?_)
    · rcases hx 0 x rfl with h1 | h1
      · rw [Nat.add_zero] at h1
        rw [h1]
        cases v k with
        | true => exact apply_box_congr h
        | false => exact h
      · cases u k <;> cases v k <;> simp only [cnd, apply_box_ne h1, h]
    · have := hx (i + 1) y (by simpa using hy)
      rw [show Nat.succ k + i = k + (i + 1) by omega]
      exact this
theorem applyM_congr : ∀ (l : List ER) (k : Nat) (s : ASt), (∀ i, i < l.length → u (k + i) = v (k + i)) → applyM u k l s = applyM v k l s
  | [], _, _, _ => rfl
  | x :: l, k, s, h => by
    simp only [applyM]
    have h0 := h 0 (by simp)
    rw [Nat.add_zero] at h0
    rw [h0]
    exact applyM_congr l _ _ (fun i hi => by rw [show Nat.succ k + i = k + (i + 1) by omega]; exact h (i + 1) (by simp; omega))
theorem applyM_append : ∀ (l1 l2 : List ER) (k : Nat) (s : ASt), applyM u k (l1 ++ l2) s = applyM u (k + l1.length) l2 (applyM u k l1 s)
  | [], _, _, _ => rfl
  | x :: l1, l2, k, s => by
    simp only [List.cons_append, applyM]
    rw [applyM_append l1 l2]
    simp [Nat.add_assoc, Nat.add_comm 1]
theorem applyM_on : ∀ (l : List ER) (k : Nat) (s : ASt), (∀ i, i < l.length → u (k + i) = true) → applyM u k l s = applyAll l s
  | [], _, _, _ => rfl
  | x :: l, k, s, h => by
    simp only [applyM, applyAll]
    have h0 := h 0 (by simp)
    rw [Nat.add_zero] at h0
    rw [h0]
    exact applyM_on l _ _ (fun i hi => by rw [show Nat.succ k + i = k + (i + 1) by omega]; exact h (i + 1) (by simp; omega))

structure Disj (e f : Eff) : Prop where
  dst : ∀ d tv d' tv', e.dst = some (d, tv) → f.dst = some (d', tv') → d ≠ d'
  bxs : ∀ b, keyOf e b → ¬ keyOf f b

theorem apply_comm {e f : Eff} {o1 o2 : List (Nat × Bool)} {s : ASt} (h : Disj e f) : f.apply o2 (e.apply o1 s) = e.apply o1 (f.apply o2 s) := by
  have hs : ∀ t, (f.apply o2 (e.apply o1 s)).slot t = (e.apply o1 (f.apply o2 s)).slot t := by
    intro t
    by_cases h1 : ∃ tv, e.dst = some (t, tv)
    · obtain ⟨tv, h1⟩ := h1
      rw [apply_slot_ne (e := f) (fun d' tv' hd' => (h.dst t tv d' tv' h1 hd').symm)]
      unfold Eff.apply
      simp only [h1, cnd_if, if_true]
    · have h2 : ∀ d tv, e.dst = some (d, tv) → d ≠ t := fun d tv hd heq => h1 ⟨tv, heq ▸ hd⟩
      rw [apply_slot_ne h2]
      exact apply_slot_congr (apply_slot_ne h2)
  have hb : ∀ b, (f.apply o2 (e.apply o1 s)).box b = (e.apply o1 (f.apply o2 s)).box b := by
    intro b
    by_cases h1 : keyOf e b
    · rw [apply_box_ne (h.bxs b h1)]
      have := apply_box_ne (own := o2) (st := s) (h.bxs b h1)
      exact (apply_box_congr this).symm
    · rw [apply_box_ne h1]
      exact apply_box_congr (apply_box_ne h1)
  have := funext hs
  have := funext hb
  show ASt.mk _ _ = ASt.mk _ _
  congr 1
theorem applyM_comm {o1 : List (Nat × Bool)} : ∀ (l : List ER) (k : Nat) (s : ASt), (∀ i y, l[i]? = some y → u (k + i) = true → Disj e y.eff) → applyM u k l (e.apply o1 s) = e.apply o1 (applyM u k l s)
  | [], _, _, _ => rfl
  | x :: l, k, s, h => by
    simp only [applyM]
    have h0 := h 0 x rfl
    rw [Nat.add_zero] at h0
    have ih := fun s => applyM_comm (o1 := o1) l (Nat.succ k) s (fun i y hy hu => h (i + 1) y (by simpa using hy) (by rw [show k + (i + 1) = Nat.succ k + i by omega]; exact hu))
    cases hu : u k with
    | true =>
      simp only [cnd]
      rw [apply_comm (h0 hu)]
      exact ih _
    | false => exact ih _
theorem applyM_step {l : List ER} {x : ER} {k : Nat} {s : ASt} (hx : l[k]? = some x) (hu : u k = false) (hv : v k = true) (huv : ∀ i, i ≠ k → v i = u i)
    (hd : ∀ i y, l[i]? = some y → k < i → u i = true → Disj x.eff y.eff) : applyM v 0 l s = x.eff.apply x.own (applyM u 0 l s) := by
  obtain ⟨hk, hx'⟩ := List.getElem?_eq_some_iff.1 hx
  have hl : l = l.take k ++ x :: l.drop (k + 1) := by
    rw [← hx', List.getElem_cons_drop, List.take_append_drop]
  rw [hl]
  have hlen : (l.take k).length = k := by simp; omega
  rw [applyM_append, applyM_append, hlen, Nat.zero_add]
  simp only [applyM, hu, hv, cnd]
  rw [applyM_congr (u := v) (v := u) (l.take k) 0 s (fun i hi => by rw [hlen] at hi; exact huv _ (by omega)),
    applyM_congr (u := v) (v := u) (l.drop (k + 1)) (Nat.succ k) _ (fun i hi => huv _ (by omega))]
  refine applyM_comm _ _ _ (fun i y hy hui => hd (k + 1 + i) y ?_ (by omega) hui)
  rw [List.getElem?_drop] at hy
  exact hy

theorem mem_dstsM {t : Nat} : ∀ {l : List Oper} {k : Nat}, t ∈ dstsM u k l ↔ ∃ j o, l[j]? = some o ∧ o.dst = some t ∧ u (k + j) = true
  | [], k => by simp [dstsM]
  | p :: l, k => by
    have ih := mem_dstsM (t := t) (l := l) (k := Nat.succ k)
    constructor
    · intro h
      simp only [dstsM] at h
      have hr : t ∈ dstsM u (Nat.succ k) l → ∃ j o, (p :: l)[j]? = some o ∧ o.dst = some t ∧ u (k + j) = true := by
        intro h
        obtain ⟨j, o, h1, h2, h3⟩ := ih.1 h
        exact ⟨j + 1, o, by simpa using h1, h2, by rw [show k + (j + 1) = Nat.succ k + j by omega]; exact h3⟩
      split at h
      · rename_i d hd
        cases hu : u k with
        | true =>
          rw [hu] at h
          rcases List.mem_cons.1 h with rfl | h
          · exact ⟨0, p, rfl, hd, hu⟩
          · exact hr h
        | false => rw [hu] at h; exact hr h
      · exact hr h
    · rintro ⟨j, o, h1, h2, h3⟩
      cases j with
      | zero =>
        simp at h1
        subst h1
        simp only [dstsM, h2]
        rw [Nat.add_zero] at h3
        rw [h3]
        simp [cnd]
      | succ j =>
        have : t ∈ dstsM u (Nat.succ k) l := ih.2 ⟨j, o, by simpa using h1, h2, by rw [show Nat.succ k + j = k + (j + 1) by omega]; exact h3⟩
        simp only [dstsM]
        split
        · cases u k <;> simp [cnd, this]
        · exact this

theorem nodup_inj {l : List Oper} (h : nodup (l.filterMap (·.dst)) = true) : ∀ {i j : Nat} {p q : Oper} {d : Nat}, l[i]? = some p → l[j]? = some q → p.dst = some d → q.dst = some d → i = j := by
  induction l with
  | nil => intro i j p q d h1; simp at h1
  | cons x l ih =>
    intro i j p q d h1 h2 h3 h4
    have hmem : ∀ (k : Nat) (r : Oper), l[k]? = some r → r.dst = some d → d ∈ l.filterMap (·.dst) := fun k r hk hr => List.mem_filterMap.2 ⟨r, List.mem_of_getElem? hk, hr⟩
    cases i with
    | zero =>
      simp at h1; subst h1
      rw [List.filterMap_cons_some h3] at h
      cases j with
      | zero => rfl
      | succ j => exact absurd (hmem j q (by simpa using h2) h4) (nodup_cons h).1
    | succ i =>
      cases j with
      | zero =>
        simp at h2; subst h2
        rw [List.filterMap_cons_some h4] at h
        exact absurd (hmem i p (by simpa using h1) h3) (nodup_cons h).1
      | succ j =>
        have h' : nodup (l.filterMap (·.dst)) = true := by
          cases hx : x.dst with
          | none => rwa [List.filterMap_cons_none hx] at h
          | some y => rw [List.filterMap_cons_some hx] at h; exact (nodup_cons h).2
        have := ih h' (i := i) (j := j) (p := p) (q := q) (d := d) (by simpa using h1) (by simpa using h2) h3 h4
        omega

theorem wrOf_ok {t : Nat} : ∀ {l : List Oper} {k : Nat}, (∀ j, wrOf l k t = some j → ∃ o, k ≤ j ∧ l[j - k]? = some o ∧ o.dst = some t) ∧ (wrOf l k t = none → ∀ (j : Nat) (o : Oper), l[j]? = some o → o.dst ≠ some t)
  | [], k => ⟨fun j h => (by cases h), fun _ j o h => (by simp at h)⟩
  | p :: l, k => by
    obtain ⟨ih1, ih2⟩ := wrOf_ok (t := t) (l := l) (k := Nat.succ k)
    have ih1' : ∀ j, wrOf l (Nat.succ k) t = some j → ∃ o, k ≤ j ∧ (p :: l)[j - k]? = some o ∧ o.dst = some t := by
      intro j hj
      obtain ⟨o, h1, h2, h3⟩ := ih1 j hj
      refine ⟨o, by omega, ?_, h3⟩
      rw [show j - k = (j - Nat.succ k) + 1 by omega]
      simpa using h2
    have ih2' : wrOf l (Nat.succ k) t = none → p.dst ≠ some t → ∀ (j : Nat) (o : Oper), (p :: l)[j]? = some o → o.dst ≠ some t := by
      intro hn hp j o hj
      cases j with
      | zero => simp at hj; subst hj; exact hp
      | succ j => exact ih2 hn j o (by simpa using hj)
    simp only [wrOf]
    cases hd : p.dst with
    | none => exact ⟨ih1', fun h => ih2' h (by rw [hd]; simp)⟩
    | some d =>
      simp only [cnd_if]
      by_cases hdt : d = t
      · rw [if_pos hdt]
        refine ⟨fun j hj => ?_, fun h => by cases h⟩
        cases hj
        exact ⟨p, Nat.le_refl _, by simp, by rw [hd, hdt]⟩
      · rw [if_neg hdt]
        exact ⟨ih1', fun h => ih2' h (by rw [hd]; simpa using hdt)⟩

theorem subN_spec : ∀ {ks l : List Nat}, subN ks l = true → ∀ x ∈ ks, x ∈ l
  | [], _, _, x, hx => by cases hx
  | k :: ks, l, h, x, hx => by
    obtain ⟨h1, h2⟩ := andd_true h
    rcases List.mem_cons.1 hx with rfl | hx
    · exact mem_spec.1 h1
    · exact subN_spec h2 x hx
theorem disjN_spec : ∀ {ks l : List Nat}, disjN ks l = true → ∀ x ∈ ks, x ∉ l
  | [], _, _, x, hx => by cases hx
  | k :: ks, l, h, x, hx => by
    obtain ⟨h1, h2⟩ := andd_true h
    rcases List.mem_cons.1 hx with rfl | hx
    · intro hm
      rw [mem_spec.2 hm] at h1
      cases h1
    · exact disjN_spec h2 x hx
theorem keysB_mem : ∀ {l : List (Nat × Option Bx)} {b : Nat}, b ∈ keysB l ↔ ∃ x ∈ l, x.1 = b
  | [], b => by simp [keysB]
  | (k, v) :: r, b => by
    simp only [keysB, List.mem_cons, keysB_mem (l := r)]
    constructor
    · rintro (rfl | ⟨x, hx, rfl⟩)
      · exact ⟨_, .inl rfl, rfl⟩
      · exact ⟨x, .inr hx, rfl⟩
    · rintro ⟨x, rfl | hx, rfl⟩
      · exact .inl rfl
      · exact .inr ⟨x, hx, rfl⟩
theorem unord_of {anc : List Nat} {j k : Nat} (h1 : j ≠ k) (h2 : tb (anc.getD k 0) j = false) (h3 : tb (anc.getD j 0) k = false) : unord anc j k = true := by
  unfold unord
  have : Nat.beq j k = false := by
    cases hb : Nat.beq j k with
    | false => rfl
    | true => exact absurd (beq_eq hb) h1
  rw [this, h2, h3]
  rfl
theorem indepRow_ok {anc : List Nat} {M : List (List Nat)} {j : Nat} {ks : List Nat} : ∀ {ops : List Oper} {l : List ER} {k0 : Nat}, indepRow C anc M j ks k0 ops l = true → ∀ k p e, ops[k]? = some p → l[k]? = some e → unord anc j (k0 + k) = true →
    (touches C p = true → ∀ x ∈ ks, x ∈ M.getD (k0 + k) []) ∧ (∀ x ∈ ks, x ∉ keysE e.eff)
  | [], l, k0, _, k, p, e, hp, _, _ => by simp at hp
  | q :: ops, [], k0, _, k, p, e, _, he, _ => by simp at he
  | q :: ops, x :: l, k0, h, k, p, e, hp, he, hu => by
    obtain ⟨ha, hb⟩ := andd_true h
    cases k with
    | zero =>
      simp only [List.getElem?_cons_zero, Option.some.injEq] at hp he
      subst hp he
      rw [Nat.add_zero] at hu ⊢
      rw [hu] at ha
      obtain ⟨h1, h2⟩ := andd_true (show andd _ _ = true from ha)
      refine ⟨fun ht => ?_, disjN_spec h2⟩
      rcases orr_true h1 with h1 | h1
      · rw [ht] at h1; cases h1
      · exact subN_spec h1
    | succ k =>
      have := indepRow_ok hb k p e (by simpa using hp) (by simpa using he) (by rw [show Nat.succ k0 + k = k0 + (k + 1) by omega]; exact hu)
      rw [show Nat.succ k0 + k = k0 + (k + 1) by omega] at this
      exact this
theorem indepAll_ok {anc : List Nat} {M : List (List Nat)} {ops : List Oper} {l : List ER} : ∀ {r : List Oper} {q : List ER} {j0 : Nat}, indepAll C anc M ops l j0 r q = true → ∀ j o e, r[j]? = some o → q[j]? = some e → isStore o = true → indepRow C anc M (j0 + j) (keysE e.eff) 0 ops l = true
  | [], q, j0, _, j, o, e, ho, _, _ => by simp at ho
  | o' :: r, [], j0, _, j, o, e, _, he, _ => by simp at he
  | o' :: r, e' :: q, j0, h, j, o, e, ho, he, hs => by
    obtain ⟨ha, hb⟩ := andd_true h
    cases j with
    | zero =>
      simp only [List.getElem?_cons_zero, Option.some.injEq] at ho he
      subst ho he
      rw [hs] at ha
      rw [Nat.add_zero]
      exact ha
    | succ j =>
      have := indepAll_ok hb j o e (by simpa using ho) (by simpa using he) hs
      rw [show Nat.succ j0 + j = j0 + (j + 1) by omega] at this
      exact this
/-- Writes without a place do no harm. -/
def Indep (C : Ctx) (anc : List Nat) (M : List (List Nat)) (ops : List Oper) (l : List ER) : Prop :=
  ∀ j k o p ej ek, ops[j]? = some o → ops[k]? = some p → l[j]? = some ej → l[k]? = some ek → isStore o = true → unord anc j k = true → (touches C p = true → ∀ x, keyOf ej.eff x → x ∈ M.getD k []) ∧ (∀ x, keyOf ej.eff x → ¬ keyOf ek.eff x)
theorem indep_of {anc : List Nat} {M : List (List Nat)} {ops : List Oper} {l : List ER} (h : indepAll C anc M ops l 0 ops l = true) : Indep C anc M ops l := by
  intro j k o p ej ek ho hp hj hk hs hu
  have h1 := indepAll_ok h j o ej ho hj hs
  rw [Nat.zero_add] at h1
  have h2 := indepRow_ok h1 k p ek hp hk (by rw [Nat.zero_add]; exact hu)
  rw [Nat.zero_add] at h2
  have hkey : ∀ (e : Eff) x, keyOf e x ↔ x ∈ keysE e := fun e x => by
    unfold keysE
    rw [keysB_mem]
    exact Iff.rfl
  exact ⟨fun ht x hx => h2.1 ht x ((hkey _ _).1 hx), fun x hx hx2 => h2.2 x ((hkey _ _).1 hx) ((hkey _ _).1 hx2)⟩

/-! ### What the evaluator finds of an operation -/
def rstA (C : Ctx) (ops : List Oper) (anc : List Nat) (M : List (List Nat)) (st0 : ASt) (l : List ER) (k : Nat) (o : Oper) : ASt := restrA ops anc k (touches C o) (M.getD k []) (applyM (tb (anc.getD k 0)) 0 l st0)

structure DrAt (C : Ctx) (ops : List Oper) (anc : List Nat) (M : List (List Nat)) (st0 : ASt) (l : List ER) (k : Nat) (o : Oper) (own : List (Nat × Bool)) (e : Eff) : Prop where
  at_ : l[k]? = some ⟨own, underO (rstA C ops anc M st0 l k o) own e.need, e⟩
  hown : ownOf ops (dstsM (tb (anc.getD k 0)) 0 ops) (rstA C ops anc M st0 l k o) o = some own
  ev : evOp C own (dstsM (tb (anc.getD k 0)) 0 ops) (rstA C ops anc M st0 l k o) o = some e
  dst : dstOk e.dst o.dst = true
  keys : keysOk C o e = true
  gb : nott (andd (isGuarded o) (match e.bxs with | [] => false | _ => true)) = true

theorem rstA_snoc {ops : List Oper} {anc : List Nat} {M : List (List Nat)} {st0 : ASt} {l : List ER} {x : ER} {k : Nat} (hA : tb (anc.getD k 0) l.length = false) : rstA C ops anc M st0 (l ++ [x]) k o = rstA C ops anc M st0 l k o := by
  unfold rstA
  rw [applyM_append]
  simp only [applyM, Nat.zero_add, hA, cnd]

theorem evDr_ok {ops : List Oper} {anc : List Nat} {M : List (List Nat)} {st0 : ASt} (hA : ∀ k i, k < ops.length → tb (anc.getD k 0) i = true → i < k) : ∀ {r pre : List Oper} {acc l : List ER}, evDr C ops anc M st0 r acc.length acc = some l → pre.length = acc.length → ops = pre ++ r →
    (∀ k o, k < acc.length → ops[k]? = some o → ∃ own e, DrAt C ops anc M st0 acc k o own e) → l.length = ops.length ∧ ∀ k o, ops[k]? = some o → ∃ own e, DrAt C ops anc M st0 l k o own e
  | [], pre, acc, l, h, hl, hp, hd => by
    simp only [evDr, Option.some.injEq] at h; subst h
    rw [List.append_nil] at hp; subst hp
    exact ⟨hl.symm, fun k o hk => hd k o (by rw [← hl]; exact (List.getElem?_eq_some_iff.1 hk).1) hk⟩
  | o :: r, pre, acc, l, h, hl, hp, hd => by
    simp only [evDr] at h
    split at h
    case h_2 => cases h
    rename_i own hown
    split at h
    case h_2 => cases h
    rename_i e he
    obtain ⟨hc, h⟩ := cnd_some h
    obtain ⟨hc1, hc⟩ := andd_true hc
    obtain ⟨hc2, hc⟩ := andd_true hc
    have hc4 := hc
    have hko : acc.length < ops.length := by rw [hp]; simp; omega
    have hat : ops[acc.length]? = some o := by rw [hp, ← hl]; simp
    rw [app_eq] at h
    refine evDr_ok hA (pre := pre ++ [o]) (acc := acc ++ [_]) (by simpa using h) (by simp [hl]) (by simp [hp]) (fun k o' hk hk' => ?_)
    have hoff : tb (anc.getD k 0) acc.length = false := by
      cases hb : tb (anc.getD k 0) acc.length with
      | false => rfl
      | true =>
        have := hA k _ (List.getElem?_eq_some_iff.1 hk').1 hb
        simp at hk
        omega
    simp only [List.length_append, List.length_cons, List.length_nil] at hk
    rcases Nat.lt_or_ge k acc.length with hlt | hge
    · obtain ⟨own', e', hD⟩ := hd k o' hlt hk'
      refine ⟨own', e', ?_⟩
      exact { at_ := by rw [List.getElem?_append_left hlt, rstA_snoc hoff]; exact hD.at_
              hown := by rw [rstA_snoc hoff]; exact hD.hown
              ev := by rw [rstA_snoc hoff]; exact hD.ev
              dst := hD.dst, keys := hD.keys, gb := hD.gb }
    · have hkk : k = acc.length := by omega
      subst hkk
      rw [hat] at hk'
      cases hk'
      refine ⟨own, e, ?_⟩
      exact { at_ := by rw [rstA_snoc hoff]; simp [rstA]
              hown := by rw [rstA_snoc hoff]; exact hown
              ev := by rw [rstA_snoc hoff]; exact he
              dst := hc1, keys := hc2, gb := hc4 }

/-! ### Whatever order -/
theorem RegM.congr {V : List Nat} (h : RegM φ ν m W st a w) (hW : ∀ d, d ∈ W ↔ d ∈ V) : RegM φ ν m V st a w :=
  ⟨h.sat, fun t g hg x hx => (hW _).1 (h.tags t g hg x hx), fun d hd => h.yes d ((hW _).2 hd)⟩

def undone (u : Nat → Bool) : Nat → Nat
  | 0 => 0
  | n + 1 => undone u n + (if u n = true then 0 else 1)
theorem undone_congr : ∀ n, (∀ i, i < n → u i = v i) → undone u n = undone v n
  | 0, _ => rfl
  | n + 1, h => by simp only [undone]; rw [undone_congr n (fun i hi => h i (by omega)), h n (by omega)]
theorem undone_step {k : Nat} (hu : u k = false) (hv : v k = true) (huv : ∀ i, i ≠ k → v i = u i) : ∀ n, k < n → undone u n = undone v n + 1
  | 0, h => by omega
  | n + 1, h => by
    simp only [undone]
    by_cases hk : k = n
    · subst hk
      rw [undone_congr k (fun i hi => (huv i (by omega)).symm), hu, hv]
      simp
    · rw [undone_step hu hv huv n (by omega), huv n (by omega)]
      omega
theorem undone_zero : ∀ n, undone u n = 0 → ∀ i, i < n → u i = true
  | 0, _, i, hi => by omega
  | n + 1, h, i, hi => by
    simp only [undone] at h
    by_cases hin : i = n
    · subst hin
      cases hu : u i with
      | true => rfl
      | false => rw [hu] at h; simp at h
    · exact undone_zero n (by omega) i (by omega)
theorem undone_all : ∀ n, (∀ i, i < n → u i = true) → undone u n = 0
  | 0, _ => rfl
  | n + 1, h => by simp only [undone]; rw [undone_all n (fun i hi => h i (by omega)), h n (by omega)]; simp
theorem undone_none : ∀ n, (∀ i, i < n → u i = false) → undone u n = n
  | 0, _ => rfl
  | n + 1, h => by simp only [undone]; rw [undone_none n (fun i hi => h i (by omega)), h n (by omega)]; simp

theorem keys_touch {b : Nat} (h : keysOk C o e = true) (hk : keyOf e b) : touches C o = true ∧ (isStore o = true ∨ o.dst = some b) := by
  obtain ⟨x, hx, rfl⟩ := hk
  rcases orr_true h with h | h
  · unfold noBx at h
    split at h
    · rename_i hb; rw [hb] at hx; cases hx
    · cases h
  · obtain ⟨h1, h2⟩ := andd_true h
    refine ⟨h1, ?_⟩
    rcases orr_true h2 with h2 | h2
    · exact .inl h2
    · have := allB_spec h2 x hx
      split at this
      · rename_i d hd; exact .inr (by rw [hd, beq_eq this])
      · cases this

theorem drawn_ok (hC : CtxOk P C) (hφ : FrOk C.G φ) {ops : List Oper} (hD : ∀ o ∈ ops, ∀ d, o.dst = some d → d < φ.n ∧ φ.D d = true) {anc : List Nat} {M : List (List Nat)} {st0 : ASt} {l : List ER}
    (hnd : nodup (ops.filterMap (·.dst)) = true) (hind : Indep C anc M ops l) (hanc : ∀ j o, ops[j]? = some o → AncAt o anc j) (hlen : l.length = ops.length)
    (hl : ∀ k o, ops[k]? = some o → ∃ own e, DrAt C ops anc M st0 l k o own e) (hn : needsHold l)
    (hQ : ∀ a w ν W, (∃ m, RegM φ ν m W (applyAll l st0) a w) → Q .normal a w) :
    ∀ (f : Nat) (u : Array Bool) (a : Act) (w : World) (ν : Nat → Bool), undone (fun i => u.getD i false) ops.length = f → u.size = ops.length →
      (∀ j o, ops[j]? = some o → u.getD j false = true → ∀ x ∈ o.after, Region.binds .any x = true → u.getD x.on false = true) →
      (∃ m, RegM φ ν m (dstsM (fun i => u.getD i false) 0 ops) (applyM (fun i => u.getD i false) 0 l st0) a w) → wpAny P .any ops.toArray Q f u a w := by
  have hsome : ∀ j, j < ops.length → ∃ o, ops[j]? = some o := fun j hj => ⟨ops[j], List.getElem?_eq_getElem hj⟩
  have hback : ∀ k i, k < ops.length → tb (anc.getD k 0) i = true → i < k := by
    intro k
    induction k using Nat.strongRecOn with
    | _ k ih =>
      intro i hk hi
      obtain ⟨o, ho⟩ := hsome k hk
      obtain ⟨x, _, _, hlt, h | h⟩ := (hanc k o ho).why i hi
      · omega
      · have := ih x.on hlt i (by omega) h; omega
  have hsz : ∀ (u : Array Bool) j, u.size = ops.length → (u.getD j true = false ↔ j < ops.length ∧ u.getD j false = false) := by
    intro u j hu
    simp only [Array.getD_eq_getD_getElem?]
    rcases Nat.lt_or_ge j u.size with h | h
    · rw [Array.getElem?_eq_getElem h]; simp; omega
    · rw [Array.getElem?_eq_none h]; simp; omega
  have hcl : ∀ (u : Array Bool), u.size = ops.length → (∀ j o, ops[j]? = some o → u.getD j false = true → ∀ x ∈ o.after, Region.binds .any x = true → u.getD x.on false = true) →
      ∀ j i, u.getD j false = true → tb (anc.getD j 0) i = true → u.getD i false = true := by
    intro u hu hc j
    induction j using Nat.strongRecOn with
    | _ j ih =>
      intro i hj hi
      have hjl : j < ops.length := by
        rcases Nat.lt_or_ge j u.size with h | h
        · omega
        · rw [Array.getD_eq_getD_getElem?, Array.getElem?_eq_none h] at hj; cases hj
      obtain ⟨o, ho⟩ := hsome j hjl
      obtain ⟨x, hx, hb, hlt, h | h⟩ := (hanc j o ho).why i hi
      · rw [← h]; exact hc j o ho hj x hx hb
      · exact ih x.on hlt i (hc j o ho hj x hx hb) h
  intro f
  induction f with
  | zero =>
    intro u a w ν hf hu hc hr
    have hall := undone_zero _ hf
    refine ⟨?_, ?_⟩
    · rcases List.eq_nil_or_concat (Region.ready .any ops.toArray u) with h | ⟨_, j, h⟩
      · exact h
      · have hj : j ∈ Region.ready .any ops.toArray u := by rw [h]; simp
        have h2 := (hsz u j hu).1 (mem_ready.1 hj).1
        have h1 : u.getD j false = true := hall j h2.1
        rw [h1] at h2
        cases h2.2
    · rw [applyM_on l 0 st0 (fun i hi => by rw [Nat.zero_add]; exact hall i (by omega))] at hr
      exact hQ a w ν _ hr
  | succ f ih =>
    intro u a w ν hf hu hc hr
    refine ⟨fun hnil => ?_, fun i hi => ?_⟩
    · have hall : ∀ i, i < ops.length → u.getD i false = true := by
        intro i
        induction i using Nat.strongRecOn with
        | _ i ih2 =>
          intro hi
          cases hui : u.getD i false with
          | true => rfl
          | false =>
            obtain ⟨o, ho⟩ := hsome i hi
            have : i ∈ Region.ready .any ops.toArray u := mem_ready.2 ⟨(hsz u i hu).2 ⟨hi, hui⟩, o, by simpa using ho, fun x hx hb => by
              have := (hanc i o ho).deps x hx hb
              exact ih2 x.on this.1 (by omega)⟩
            rw [hnil] at this
            cases this
      have := undone_all (u := fun i => u.getD i false) ops.length hall
      omega
    · obtain ⟨h1, o, ho, hdeps⟩ := mem_ready.1 hi
      obtain ⟨hilt, hui⟩ := (hsz u i hu).1 h1
      have ho : ops[i]? = some o := by simpa using ho
      obtain ⟨own, e, hA⟩ := hl i o ho
      obtain ⟨m, hr⟩ := hr
      have hclu := hcl u hu hc
      have hancu : ∀ j, tb (anc.getD i 0) j = true → u.getD j false = true := by
        intro j hj
        obtain ⟨x, hx, hb, hlt, h | h⟩ := (hanc i o ho).why j hj
        · rw [← h]; exact hdeps x hx hb
        · exact hclu x.on j (hdeps x hx hb) h
      have hlt_of : ∀ j, u.getD j false = true → j < ops.length := by
        intro j hj
        rcases Nat.lt_or_ge j u.size with h | h
        · omega
        · rw [Array.getD_eq_getD_getElem?, Array.getElem?_eq_none h] at hj; cases hj
      -- a slot that is known: its writer has come up just if it stands ahead
      have hknown : ∀ t, knownA ops anc i t = true → ∀ (j : Nat) (p : Oper), ops[j]? = some p → p.dst = some t → tb (anc.getD i 0) j = u.getD j false := by
        intro t hk j p hj hp
        have hjl : j < ops.length := (List.getElem?_eq_some_iff.1 hj).1
        unfold knownA at hk
        split at hk
        · rename_i hw
          exact absurd hp ((wrOf_ok (t := t) (l := ops) (k := 0)).2 hw j p hj)
        · rename_i j' hw
          obtain ⟨q, _, hq, hqd⟩ := (wrOf_ok (t := t) (l := ops) (k := 0)).1 j' hw
          have hjj : j' = j := by
            rw [Nat.sub_zero] at hq
            exact nodup_inj hnd hq hj hqd hp
          subst hjj
          cases hb1 : tb (anc.getD i 0) j' with
          | true => rw [hancu j' hb1]
          | false =>
            rw [hb1] at hk
            simp only [orr] at hk
            cases hb2 : Nat.beq j' i with
            | true => rw [beq_eq hb2, hui]
            | false =>
              rw [hb2] at hk
              simp only [orr] at hk
              cases huj : u.getD j' false with
              | false => rfl
              | true => have := hclu j' i huj hk; rw [hui] at this; cases this
      have hat : ∀ (j : Nat) (x : ER), l[j]? = some x → ∃ p own e, ops[j]? = some p ∧ DrAt C ops anc M st0 l j p own e ∧ x.eff = e := by
        intro j x hx
        obtain ⟨p, hp⟩ := hsome j (by have := (List.getElem?_eq_some_iff.1 hx).1; omega)
        obtain ⟨own', e', hA'⟩ := hl j p hp
        have := hA'.at_
        rw [hx] at this
        cases this
        exact ⟨p, own', e', hp, hA', rfl⟩
      have hsub : Sub (rstA C ops anc M st0 l i o) (applyM (fun i => u.getD i false) 0 l st0) (dstsM (tb (anc.getD i 0)) 0 ops) (dstsM (fun i => u.getD i false) 0 ops) := by
        refine ⟨fun t g hg => ?_, fun b => ?_, fun t g hg => ?_⟩
        · simp only [rstA, restrA] at hg
          obtain ⟨hk, hg⟩ := cnd_some hg
          rw [← hg]
          refine applyM_slot l 0 st0 st0 rfl (fun j x hx => ?_)
          obtain ⟨p, own', e', hp, hA', rfl⟩ := hat j x hx
          by_cases hd : ∃ tv, x.eff.dst = some (t, tv)
          · obtain ⟨tv, hd⟩ := hd
            left
            have hpd : p.dst = some t := by
              rcases dstOk_spec hA'.dst with ⟨h3, _⟩ | ⟨_, _, h3, h4⟩
              · rw [hd] at h3; cases h3
              · rw [hd] at h3; cases h3; exact h4
            rw [Nat.zero_add]
            exact (hknown t hk j p hp hpd).symm
          · right; intro d tv h3 h4; subst h4; exact hd ⟨tv, h3⟩
        · simp only [rstA, restrA]
          cases hc2 : andd (touches C o) (andd (knownA ops anc i b) (nott (Sy.mem b (M.getD i [])))) with
          | false => left; rfl
          | true =>
            right
            obtain ⟨ht, hk⟩ := andd_true hc2
            obtain ⟨hk, hmk⟩ := andd_true hk
            simp only [cnd]
            refine applyM_box l 0 st0 st0 rfl (fun j x hx => ?_)
            obtain ⟨p, own', e', hp, hA', rfl⟩ := hat j x hx
            by_cases hkey : keyOf x.eff b
            · left
              rw [Nat.zero_add]
              obtain ⟨htp, hst | hpd⟩ := keys_touch hA'.keys hkey
              · cases hb1 : tb (anc.getD i 0) j with
                | true => exact (hancu j hb1).symm
                | false =>
                  cases huj : u.getD j false with
                  | false => rfl
                  | true =>
                    have hne : j ≠ i := fun h3 => by subst h3; rw [hui] at huj; cases huj
                    have hji : tb (anc.getD j 0) i = false := by
                      cases h4 : tb (anc.getD j 0) i with
                      | false => rfl
                      | true => have := hclu j i huj h4; rw [hui] at this; cases this
                    have h5 := (hind j i p o _ _ hp ho hx hA.at_ hst (unord_of hne hb1 hji)).1 ht b hkey
                    rw [mem_spec.2 h5] at hmk
                    cases hmk
              · exact hknown b hk j p hp hpd
            · exact .inr hkey
        · simp only [rstA, restrA] at hg
          obtain ⟨hk, _⟩ := cnd_some hg
          have : t ∈ dstsM (tb (anc.getD i 0)) 0 ops ↔ t ∈ dstsM (fun i => u.getD i false) 0 ops := by
            rw [mem_dstsM, mem_dstsM]
            constructor
            · rintro ⟨j, p, h3, h4, h5⟩; rw [Nat.zero_add] at h5; exact ⟨j, p, h3, h4, by rw [Nat.zero_add, ← hknown t hk j p h3 h4]; exact h5⟩
            · rintro ⟨j, p, h3, h4, h5⟩; rw [Nat.zero_add] at h5; exact ⟨j, p, h3, h4, by rw [Nat.zero_add, hknown t hk j p h3 h4]; exact h5⟩
          cases h3 : Sy.mem t (dstsM (tb (anc.getD i 0)) 0 ops) with
          | true => exact (mem_spec.2 (this.1 (mem_spec.1 h3))).symm
          | false =>
            cases h4 : Sy.mem t (dstsM (fun i => u.getD i false) 0 ops) with
            | false => rfl
            | true => rw [mem_spec.2 (this.2 (mem_spec.1 h4))] at h3; cases h3
      -- what has come up behind it
      have hget : ∀ j, (u.setIfInBounds i true).getD j false = if j = i then true else u.getD j false := by
        intro j
        simp only [Array.getD_eq_getD_getElem?]
        by_cases hji : j = i
        · subst hji
          rw [Array.getElem?_setIfInBounds_self_of_lt (by omega)]
          simp
        · rw [Array.getElem?_setIfInBounds_ne (Ne.symm hji), if_neg hji]
      refine step_ok (φ := φ) hC hφ ops (hD o (List.mem_of_getElem? ho)) ho (ownOf_mono hsub hA.hown) (evOp_mono hsub hA.ev) hA.dst hA.gb (fun d hd hmem => ?_) (fun p hp hh => ?_) hr (fun a' w' ν' hr' => ?_)
      · obtain ⟨j, p, h3, h4, h5⟩ := mem_dstsM.1 hmem
        rw [Nat.zero_add] at h5
        rw [nodup_inj hnd h3 ho h4 hd, hui] at h5
        cases h5
      · have h3 : under (rstA C ops anc M st0 l i o) own p := hn _ (List.mem_of_getElem? hA.at_) (under (rstA C ops anc M st0 l i o) own p) (by simp [underO, hp])
        exact under_spec h3 (fun d b hm g c hg hgc => hh d b hm g c (hsub.slot d g hg) hgc)
      · obtain ⟨m', hr'⟩ := hr'
        refine ih (u.setIfInBounds i true) a' w' ν' ?_ (by simpa using hu) (fun j p hj huj x hx hb => ?_) ⟨m', ?_⟩
        · have := undone_step (u := fun i => u.getD i false) (v := fun j => (u.setIfInBounds i true).getD j false) (k := i) hui (by simp only [hget]; simp) (fun j hj => by simp only [hget, if_neg hj]) ops.length hilt
          omega
        · rw [hget] at huj ⊢
          split
          · rfl
          · by_cases hji : j = i
            · subst hji
              rw [ho] at hj; cases hj
              exact hdeps x hx hb
            · rw [if_neg hji] at huj; exact hc j p hj huj x hx hb
        · rw [applyM_step (u := fun i => u.getD i false) (v := fun j => (u.setIfInBounds i true).getD j false) hA.at_ hui (by simp only [hget]; simp) (fun j hj => by simp only [hget, if_neg hj]) (fun j y hy hij huj => ?_)]
          · refine hr'.congr fun d => ?_
            have hco : d ∈ consO o.dst (dstsM (fun i => u.getD i false) 0 ops) ↔ o.dst = some d ∨ d ∈ dstsM (fun i => u.getD i false) 0 ops := by
              unfold consO
              cases o.dst with
              | none => simp
              | some d' => simp [eq_comm]
            rw [hco, mem_dstsM, mem_dstsM]
            constructor
            · rintro (h3 | ⟨j, p, h3, h4, h5⟩)
              · exact ⟨i, o, ho, h3, by rw [Nat.zero_add]; simp only [hget]; simp⟩
              · refine ⟨j, p, h3, h4, ?_⟩
                rw [Nat.zero_add] at h5 ⊢
                simp only [hget]
                split
                · rfl
                · exact h5
            · rintro ⟨j, p, h3, h4, h5⟩
              rw [Nat.zero_add] at h5
              simp only [hget] at h5
              by_cases hji : j = i
              · subst hji
                rw [ho] at h3; cases h3
                exact .inl h4
              · rw [if_neg hji] at h5
                exact .inr ⟨j, p, h3, h4, by rw [Nat.zero_add]; exact h5⟩
          · obtain ⟨p, own', e', hp, hA', rfl⟩ := hat j y hy
            have hno : tb (anc.getD j 0) i ≠ true := fun h3 => by have := hclu j i huj h3; rw [hui] at this; cases this
            refine ⟨fun d tv d' tv' h3 h4 h5 => ?_, fun b h3 h4 => ?_⟩
            · subst h5
              have h6 : o.dst = some d := by
                rcases dstOk_spec hA.dst with ⟨h7, _⟩ | ⟨_, _, h7, h8⟩
                · rw [h3] at h7; cases h7
                · rw [h3] at h7; cases h7; exact h8
              have h9 : p.dst = some d := by
                rcases dstOk_spec hA'.dst with ⟨h7, _⟩ | ⟨_, _, h7, h8⟩
                · rw [h4] at h7; cases h7
                · rw [h4] at h7; cases h7; exact h8
              have := nodup_inj hnd ho hp h6 h9
              omega
            · obtain ⟨t1, h6⟩ := keys_touch hA.keys h3
              obtain ⟨t2, h7⟩ := keys_touch hA'.keys h4
              by_cases hs : isStore o = true ∨ isStore p = true
              · have hji : tb (anc.getD j 0) i = false := by
                  cases h8 : tb (anc.getD j 0) i with
                  | false => rfl
                  | true => exact absurd h8 hno
                have hij' : tb (anc.getD i 0) j = false := by
                  cases h8 : tb (anc.getD i 0) j with
                  | false => rfl
                  | true => have := hback i j hilt h8; omega
                rcases hs with hs | hs
                · exact (hind i j o p _ _ ho hp hA.at_ hy hs (unord_of (by omega) hji hij')).2 b h3 h4
                · exact (hind j i p o _ _ hp ho hy hA.at_ hs (unord_of (by omega) hij' hji)).2 b h4 h3
              · rcases h6 with h6 | h6
                · exact hs (.inl h6)
                · rcases h7 with h7 | h7
                  · exact hs (.inr h7)
                  · have := nodup_inj hnd ho hp h6 h7; omega

theorem drew_below (w : World) : Below w.heap.size w { w with drawn := w.drawn + 1 } := ⟨rfl, rfl, rfl, Nat.le_refl _, fun _ _ => rfl⟩

/-- A region, whether it draws its order or not. -/
theorem region_ok (hC : CtxOk P C) (hφ : FrOk C.G φ) {id : Nat} {ops : List Oper} {d : Bool} (hD : ∀ o ∈ ops, ∀ d, o.dst = some d → d < φ.n ∧ φ.D d = true) {st0 : ASt} {l : List ER}
    (hnd : nodup (ops.filterMap (·.dst)) = true) (hev : evReg C d ops st0 = some l) (hn : needsHold l) (hr : ∃ m, RegM φ ν m [] st0 a w)
    (hQ : ∀ a w ν W, (∃ m, RegM φ ν m W (applyAll l st0) a w) → Q .normal a w) : (Code.region id ops.toArray d).wp P Q a w := by
  unfold evReg at hev
  cases d with
  | false =>
    refine wp_region ?_
    have := evList_ok (φ := φ) (Q := Q) hC hφ ops hD ops 0 [] st0 a w ν l hev rfl hnd (fun d _ h => (by cases h)) hn hr (fun a' w' ν' W' h => hQ a' w' ν' W' h)
    simpa [List.range_eq_range'] using this
  | true =>
    simp only [cnd] at hev
    split at hev
    case h_2 => cases hev
    rename_i anc hanc
    have hanc' := ancAll_ok (pre := []) (acc := []) hanc rfl (fun j o h => by simp at h)
    simp only [List.nil_append] at hanc'
    have hback : ∀ k i, k < ops.length → tb (anc.getD k 0) i = true → i < k := by
      intro k
      induction k using Nat.strongRecOn with
      | _ k ih =>
        intro i hk hi
        obtain ⟨x, _, _, hlt, h | h⟩ := (hanc' k ops[k] (List.getElem?_eq_getElem hk)).why i hi
        · omega
        · have := ih x.on hlt i (by omega) h; omega
    obtain ⟨M, hevM, hindM⟩ : ∃ M, evDr C ops anc M st0 ops 0 [] = some l ∧ indepAll C anc M ops l 0 ops l = true := by
      unfold evDrawn at hev
      split at hev
      case h_2 => cases hev
      rename_i l1 hl1
      cases hi : indepAll C anc [] ops l1 0 ops l1 with
      | true => rw [hi] at hev; cases hev; exact ⟨_, hl1, hi⟩
      | false =>
        rw [hi] at hev
        simp only [cnd] at hev
        split at hev
        case h_2 => cases hev
        rename_i l2 hl2
        obtain ⟨h1, h2⟩ := cnd_some hev
        cases h2
        exact ⟨_, hl2, h1⟩
    obtain ⟨hlen, hl⟩ := evDr_ok hback (pre := []) (acc := []) hevM rfl rfl (fun k o hk => by simp at hk)
    refine wp_region_any hC.mixed ?_
    have hrep : ∀ i, (Array.replicate ops.toArray.size false).getD i false = false := by
      intro i
      rw [Array.getD_eq_getD_getElem?]
      rcases Nat.lt_or_ge i ops.toArray.size with h | h
      · rw [Array.getElem?_replicate, if_pos h]; rfl
      · rw [Array.getElem?_eq_none (by simpa using h)]; rfl
    refine drawn_ok (φ := φ) hC hφ hD hnd (indep_of hindM) hanc' hlen hl hn hQ ops.toArray.size _ a _ ν ?_ (by simp) (fun j o _ hj => by rw [hrep] at hj; cases hj) ?_
    · rw [undone_none ops.length (fun i _ => hrep i)]; simp
    · obtain ⟨m, hr⟩ := hr
      refine ⟨m, ?_⟩
      have h1 : applyM (fun i => (Array.replicate ops.toArray.size false).getD i false) 0 l st0 = st0 := by
        have : ∀ (l : List ER) (k : Nat) (s : ASt), applyM (fun i => (Array.replicate ops.toArray.size false).getD i false) k l s = s := by
          intro l
          induction l with
          | nil => intro k s; rfl
          | cons x l ih => intro k s; simp only [applyM]; rw [hrep]; exact ih _ _
        exact this l 0 st0
      have h2 : dstsM (fun i => (Array.replicate ops.toArray.size false).getD i false) 0 ops = [] := by
        cases h3 : dstsM (fun i => (Array.replicate ops.toArray.size false).getD i false) 0 ops with
        | nil => rfl
        | cons t r =>
          have : t ∈ dstsM (fun i => (Array.replicate ops.toArray.size false).getD i false) 0 ops := by rw [h3]; simp
          obtain ⟨j, o, _, _, h5⟩ := mem_dstsM.1 this
          rw [hrep] at h5; cases h5
      rw [h1, h2]
      exact ⟨hr.sat.ext (drew_below w), hr.tags, hr.yes⟩
end
end Go.Proofs.Ytghlpolodjlgjaa.Sy
