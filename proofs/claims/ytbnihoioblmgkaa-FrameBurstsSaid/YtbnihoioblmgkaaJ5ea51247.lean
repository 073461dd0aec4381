/- Own texts joined by pk.py. -/
import Derived.Test.YtbnihoioblmgkaaJ71bcc3ab
import Derived.Deep.LoopGhost
import Derived.Laws.StructEq
section
/- The symbolic evaluator is sound: regions that draw their order (own work). -/
namespace Go.Proofs.Ytbnihoioblmgkaa.Sy
open Go Go.RowKit
set_option linter.unusedVariables false
set_option linter.unusedSimpArgs false
section
variable {φ : Fr} {ν ν' : Nat → Bool} {m : Map} {st : ASt} {a : Act} {w w' : World} {own : List (Nat × Bool)} {W : List Nat} {P : Program} {C : Ctx} {o : Oper} {e : Eff}
  {K : Act → World → Prop} {Q : Exit → Act → World → Prop}
theorem step_ok (hC : CtxOk P C) (hφ : FrOk C.G φ) (ops : List Oper) (hoD : ∀ d, o.dst = some d → d < φ.n ∧ φ.D d = true) {k : Nat} (hko : ops[k]? = some o)
    (hown : ownOf ops W st o = some own) (he : evOp C own W st o = some e) (hdst : dstOk e.dst o.dst = true) (hgb : nott (andd (isGuarded o) (match e.bxs with | [] => false | _ => true)) = true)
    (hoW : ∀ d, o.dst = some d → d ∉ W)
    (hn : ∀ p, e.need = some p → (∀ d b, (d, b) ∈ own → ∀ g c, st.slot d = some g → g.tv = .v (.one (.bool c)) → c = b) → p)
    (hr : RegM φ ν m W st a w)
    (hrest : ∀ a' w' ν', (∃ m', RegM φ ν' m' (consO o.dst W) (e.apply own st) a' w') → K a' w') : wpOp P ops.toArray Q k K a w := by
  have hownW : ∀ x ∈ own, x.1 ∈ W := by
    intro x hx
    unfold ownOf at hown
    split at hown
    · cases hown; cases hx
    · split at hown
      case h_2 => cases hown
      rename_i d hjd
      split at hown
      case h_2 => cases hown
      rename_i tg c hsl
      obtain ⟨hmem, hown⟩ := cnd_some hown
      simp only [Option.some.injEq] at hown
      subst hown
      rcases List.mem_cons.1 hx with rfl | hx
      · exact mem_spec.1 hmem
      · exact hr.tags d _ hsl x hx
  let ν' : Nat → Bool := match e.dst with | some (d, tv) => fun x => if x = d then boolOf tv else ν x | none => ν
  have hν' : ∀ x, x ∈ W → ν x = ν' x := by
    intro x hx
    show ν x = (match e.dst with | some (d, tv) => fun x => if x = d then boolOf tv else ν x | none => ν) x
    rcases dstOk_spec hdst with ⟨h1, _⟩ | ⟨d, tv, h1, h2⟩
    · rw [h1]
    · rw [h1]
      have : x ≠ d := fun e => hoW d h2 (e ▸ hx)
      simp [this]
  have hsat' : SatM φ ν' m st a w := hr.sat.re fun t g hg x hx => hν' _ (hr.tags t g hg x hx)
  have hyes' : ∀ d, d ∈ W → ∀ g c, st.slot d = some g → g.tv = .v (.one (.bool c)) → ν' d = c := fun d hd g c h1 h2 => (hν' d hd).symm.trans (hr.yes d hd g c h1 h2)
  have hreg : ∀ m' a' w', SatM φ ν' m' (e.apply own st) a' w' → RegM φ ν' m' (consO o.dst W) (e.apply own st) a' w' := by
    intro m' a' w' hs
    rcases dstOk_spec hdst with ⟨h1, h2⟩ | ⟨d, tv, h1, h2⟩
    · refine ⟨hs, fun t g hg x hx => ?_, fun t ht g c hg hgc => ?_⟩
      · rw [apply_slot_none h1] at hg; rw [h2]; exact hr.tags t g hg x hx
      · rw [apply_slot_none h1] at hg; rw [h2] at ht; exact hyes' t ht g c hg hgc
    · have hsl : ∀ t, (e.apply own st).slot t = if t = d then some ⟨own, tv⟩ else st.slot t := by
        intro t
        obtain ⟨nn, dd, bb⟩ := e
        simp only at h1
        subst h1
        exact apply_slot
      refine ⟨hs, fun t g hg x hx => ?_, fun t ht g c hg hgc => ?_⟩
      · rw [hsl] at hg
        rw [h2]
        by_cases htd : t = d
        · rw [if_pos htd] at hg; cases hg; exact List.mem_cons_of_mem _ (hownW x hx)
        · rw [if_neg htd] at hg; exact List.mem_cons_of_mem _ (hr.tags t g hg x hx)
      · rw [hsl] at hg
        by_cases htd : t = d
        · rw [if_pos htd] at hg
          cases hg
          simp only at hgc
          show (match e.dst with | some (d, tv) => fun x => if x = d then boolOf tv else ν x | none => ν) t = c
          rw [h1, hgc]
          simp [htd, boolOf]
        · rw [if_neg htd] at hg
          rw [h2] at ht
          rcases List.mem_cons.1 ht with h3 | h3
          · exact absurd h3 htd
          · exact hyes' t h3 g c hg hgc
  have hrest' : ∀ a' w', Sat φ ν' (e.apply own st) a' w' → K a' w' := fun a' w' ⟨m', hs⟩ => hrest a' w' ν' ⟨m', hreg m' a' w' hs⟩
  have hneed : holdsTags ν' own → ∀ p, e.need = some p → p := by
    intro ht p hp
    refine hn p hp fun d b hm g c hg hgc => ?_
    have h2 := hyes' d (hownW _ hm) g c hg hgc
    have h3 := ht _ hm
    simp only at h3
    rw [← h2, h3]
  unfold wpOp
  have hko' : ops.toArray[k]? = some o := by simpa using hko
  simp only [hko']
  by_cases ht : holdsTags ν' own
  · have hw : Region.wanted o (yielded ops.toArray a.tmps) = true := by
      unfold Region.wanted
      unfold ownOf at hown
      split at hown
      · rename_i hg; simp [hg]
      · rename_i j b hg
        split at hown
        case h_2 => cases hown
        rename_i d hjd
        split at hown
        case h_2 => cases hown
        rename_i tg c hsl
        obtain ⟨hmem, hown⟩ := cnd_some hown
        simp only [Option.some.injEq] at hown
        subst hown
        have hv : a.tmps.getD d undef = .bool c := hsat'.slot d _ hsl (fun x hx => ht x (List.mem_cons_of_mem _ hx))
        have hb : ν' d = b := ht (d, b) (by simp)
        have hcb : ν' d = c := hyes' d (mem_spec.1 hmem) _ c hsl rfl
        have hy : yielded ops.toArray a.tmps j = some c := by
          unfold yielded
          have : (ops.toArray[j]?).bind (·.dst) = some d := by simpa using hjd
          rw [this]
          simp only [Option.bind_some]
          rw [Array.getD_eq_getD_getElem?] at hv
          cases hq : a.tmps[d]? with
          | none => rw [hq] at hv; cases hv
          | some u => rw [hq] at hv; simp only [Option.getD_some] at hv; rw [hv]
        simp only [hg, hy]
        rw [← hcb, hb]
        simp
    rw [if_pos hw]
    refine .inl (op_ok (C := C) (φ := φ) (ν := ν') (own := own) (W := W) (st := st) (e := e) (m := m) ⟨hC, hφ, he, hneed ht, ht, hyes', hsat', hoD, hrest'⟩)
  · have hg : ∃ j b, o.guard = some (j, b) := by
      cases hgd : o.guard with
      | none => unfold ownOf at hown; rw [hgd] at hown; simp only [Option.some.injEq] at hown; subst hown; exact absurd (fun x hx => by cases hx) ht
      | some x => exact ⟨x.1, x.2, rfl⟩
    obtain ⟨j, b, hg⟩ := hg
    have hbx : e.bxs = [] := by
      have h1 := nott_true hgb
      unfold isGuarded at h1
      rw [hg] at h1
      simp only [andd] at h1
      split at h1
      · assumption
      · cases h1
    have hw : Region.wanted o (yielded ops.toArray a.tmps) = false := by
      unfold Region.wanted
      unfold ownOf at hown
      rw [hg] at hown
      simp only at hown
      split at hown
      case h_2 => cases hown
      rename_i d hjd
      split at hown
      case h_2 => cases hown
      rename_i tg c hsl
      obtain ⟨hmem, hown⟩ := cnd_some hown
      simp only [Option.some.injEq] at hown
      subst hown
      have hjd' : (ops.toArray[j]?).bind (·.dst) = some d := by simpa using hjd
      simp only [hg]
      by_cases htg : holdsTags ν' tg
      · have hv : a.tmps.getD d undef = .bool c := hsat'.slot d _ hsl htg
        have hcb : ν' d = c := hyes' d (mem_spec.1 hmem) _ c hsl rfl
        have hne : ν' d ≠ b := fun hb => ht fun x hx => by
          rcases List.mem_cons.1 hx with rfl | hx
          · exact hb
          · exact htg x hx
        have hy : yielded ops.toArray a.tmps j = some c := by
          unfold yielded
          rw [hjd']
          simp only [Option.bind_some]
          rw [Array.getD_eq_getD_getElem?] at hv
          cases hq : a.tmps[d]? with
          | none => rw [hq] at hv; cases hv
          | some u => rw [hq] at hv; simp only [Option.getD_some] at hv; rw [hv]
        rw [hy, ← hcb]
        simpa using hne
      · have hv : a.tmps.getD d undef = undef := hsat'.skip d _ hsl htg
        have hy : yielded ops.toArray a.tmps j = none := by
          unfold yielded
          rw [hjd']
          simp only [Option.bind_some]
          rw [Array.getD_eq_getD_getElem?] at hv
          cases hq : a.tmps[d]? with
          | none => rfl
          | some u => rw [hq] at hv; simp only [Option.getD_some] at hv; rw [hv]; rfl
        rw [hy]; rfl
    rw [if_neg (by rw [hw]; simp)]
    rcases dstOk_spec hdst with ⟨h1, h2⟩ | ⟨d, tv, h1, h2⟩
    · rw [h2]
      refine hrest' _ _ ⟨m, ?_⟩
      obtain ⟨nn, dd, bb⟩ := e
      simp only at h1 hbx
      subst h1 hbx
      exact hsat'
    · rw [h2]
      refine hrest' _ _ ⟨m, ?_⟩
      obtain ⟨nn, dd, bb⟩ := e
      simp only at h1 hbx
      subst h1 hbx
      exact hsat'.skipOp (hoD d h2).1 (hoD d h2).2 ht
theorem tb_eq (A i : Nat) : tb A i = A.testBit i := by
  unfold tb Nat.testBit
  rw [Nat.and_comm]
  show Nat.beq (A >>> i &&& 1) 1 = (A >>> i &&& 1 != 0)
  rw [Nat.and_one_is_mod]
  rcases Nat.mod_two_eq_zero_or_one (A >>> i) with h | h <;> rw [h] <;> rfl
theorem tb_zero (i : Nat) : tb 0 i = false := by rw [tb_eq]; exact Nat.zero_testBit i
theorem tb_lor (A B i : Nat) : tb (Nat.lor A B) i = (tb A i || tb B i) := by
  simp only [tb_eq]; exact Nat.testBit_or A B i
theorem tb_one (j i : Nat) : tb (Nat.shiftLeft 1 j) i = decide (j = i) := by
  rw [tb_eq]
  show (1 <<< j).testBit i = _
  rw [Nat.one_shiftLeft, Nat.testBit_two_pow]
structure AncAt (o : Oper) (acc : List Nat) (j : Nat) : Prop where
  why : ∀ i, tb (acc.getD j 0) i = true → ∃ x ∈ o.after, Region.binds .any x = true ∧ x.on < j ∧ (x.on = i ∨ tb (acc.getD x.on 0) i = true)
  deps : ∀ x ∈ o.after, Region.binds .any x = true → x.on < j ∧ tb (acc.getD j 0) x.on = true
theorem bindsA_eq (e : Edge) : bindsA e = Region.binds .any e := by unfold bindsA Region.binds; cases e.ground <;> rfl
theorem ancOf_ok {k : Nat} {acc : List Nat} : ∀ {es : List Edge} {A : Nat}, ancOf k acc es = some A →
    (∀ i, tb A i = true → ∃ x ∈ es, Region.binds .any x = true ∧ x.on < k ∧ (x.on = i ∨ tb (acc.getD x.on 0) i = true)) ∧ (∀ x ∈ es, Region.binds .any x = true → x.on < k ∧ tb A x.on = true)
  | [], A, h => by
    simp only [ancOf, Option.some.injEq] at h; subst h
    exact ⟨fun i hi => (by rw [tb_zero] at hi; cases hi), fun x hx => (by cases hx)⟩
  | e :: r, A, h => by
    simp only [ancOf] at h
    split at h
    case h_2 => cases h
    rename_i B hB
    obtain ⟨ih1, ih2⟩ := ancOf_ok hB
    cases hb : bindsA e with
    | false =>
      rw [hb] at h; simp only [cnd, Option.some.injEq] at h; subst h
      rw [bindsA_eq] at hb
      refine ⟨fun i hi => ?_, fun x hx hbx => ?_⟩
      · obtain ⟨x, hx, h⟩ := ih1 i hi; exact ⟨x, List.mem_cons_of_mem _ hx, h⟩
      · rcases List.mem_cons.1 hx with rfl | hx
        · rw [hb] at hbx; cases hbx
        · exact ih2 x hx hbx
    | true =>
      rw [hb] at h; simp only [cnd] at h
      split at h
      case h_2 => cases h
      rename_i hlt
      simp only [Option.some.injEq] at h; subst h
      have hlt : e.on < k := Nat.le_of_ble_eq_true hlt
      rw [bindsA_eq] at hb
      refine ⟨fun i hi => ?_, fun x hx hbx => ?_⟩
      · rw [tb_lor, tb_lor, tb_one] at hi
        simp only [Bool.or_eq_true, decide_eq_true_eq] at hi
        rcases hi with hi | hi | hi
        · obtain ⟨x, hx, h⟩ := ih1 i hi; exact ⟨x, List.mem_cons_of_mem _ hx, h⟩
        · exact ⟨e, by simp, hb, hlt, .inl hi⟩
        · exact ⟨e, by simp, hb, hlt, .inr hi⟩
      · rw [tb_lor, tb_lor, tb_one]
        rcases List.mem_cons.1 hx with rfl | hx
        · exact ⟨hlt, by simp⟩
        · exact ⟨(ih2 x hx hbx).1, by simp [(ih2 x hx hbx).2]⟩
theorem getD_app {acc : List Nat} {A j : Nat} (h : j < acc.length) : (app acc [A]).getD j 0 = acc.getD j 0 := by
  rw [app_eq]; simp [List.getD_eq_getElem?_getD, List.getElem?_append_left h]
theorem AncAt.app {acc : List Nat} {A j : Nat} (hj : j < acc.length) (h : AncAt o acc j) : AncAt o (Sy.app acc [A]) j where
  why := by
    intro i hi
    rw [getD_app hj] at hi
    obtain ⟨x, h1, h2, h3, h4⟩ := h.why i hi
    exact ⟨x, h1, h2, h3, by rw [getD_app (by omega)]; exact h4⟩
  deps := by intro x hx hb; rw [getD_app hj]; exact h.deps x hx hb
theorem ancAll_ok : ∀ {r pre : List Oper} {acc anc : List Nat}, ancAll r acc.length acc = some anc → pre.length = acc.length → (∀ j o, pre[j]? = some o → AncAt o acc j) →
    ∀ j o, (pre ++ r)[j]? = some o → AncAt o anc j
  | [], pre, acc, anc, h, hl, hp => by
    simp only [ancAll, Option.some.injEq] at h; subst h
    intro j o hj; exact hp j o (by simpa using hj)
  | o :: r, pre, acc, anc, h, hl, hp => by
    simp only [ancAll] at h
    split at h
    case h_2 => cases h
    rename_i A hA
    obtain ⟨h1, h2⟩ := ancOf_ok hA
    have hlen : Nat.succ acc.length = (app acc [A]).length := by rw [app_eq]; simp
    rw [hlen] at h
    have := ancAll_ok (pre := pre ++ [o]) h (by rw [app_eq]; simp [hl]) (fun j o' hj => ?_)
    · intro j o' hj; exact this j o' (by simpa using hj)
    · rcases Nat.lt_or_ge j pre.length with hjl | hjl
      · rw [List.getElem?_append_left hjl] at hj
        exact (hp j o' hj).app (by omega)
      · have : j = pre.length := by
          have := (List.getElem?_eq_some_iff.1 hj).1
          simp at this; omega
        subst this
        simp at hj
        subst hj
        have hA' : (app acc [A]).getD pre.length 0 = A := by rw [app_eq, hl]; simp [List.getD_eq_getElem?_getD]
        exact {
          why := by
            intro i hi
            rw [hA'] at hi
            obtain ⟨x, hx, hb, hlt, h⟩ := h1 i hi
            exact ⟨x, by simpa using hx, hb, by omega, by rw [getD_app (by omega)]; exact h⟩
          deps := by
            intro x hx hb
            rw [hA']
            have := h2 x (by simpa using hx) hb
            exact ⟨by omega, this.2⟩ }
theorem cnd_if {α : Type} {a b : Nat} {x y : α} : cnd (Nat.beq a b) x y = if a = b then x else y := by
  by_cases h : a = b
  · rw [cnd_beq_true h, if_pos h]
  · rw [cnd_beq_false h, if_neg h]
def keyOf (e : Eff) (b : Nat) : Prop := ∃ x ∈ e.bxs, x.1 = b
theorem apply_slot_ne {t : Nat} (h : ∀ d tv, e.dst = some (d, tv) → d ≠ t) : (e.apply own st).slot t = st.slot t := by
  unfold Eff.apply
  cases hd : e.dst with
  | none => rfl
  | some x =>
    obtain ⟨d, tv⟩ := x
    simp only [cnd_if]
    rw [if_neg (fun h1 => h d tv hd h1.symm)]
theorem apply_slot_congr {t : Nat} {s1 s2 : ASt} (h : s1.slot t = s2.slot t) : (e.apply own s1).slot t = (e.apply own s2).slot t := by
  unfold Eff.apply
  cases hd : e.dst with
  | none => exact h
  | some x => simp only [h]
theorem applyB_ne {b : Nat} {f : Nat → Option Bx} : ∀ {bs : List (Nat × Option Bx)}, (∀ x ∈ bs, x.1 ≠ b) → applyB bs f b = f b
  | [], _ => rfl
  | (k, x) :: r, h => by
    simp only [applyB]
    rw [cnd_if, if_neg (fun e => h (k, x) (by simp) e.symm)]
    exact applyB_ne fun y hy => h y (by simp [hy])
theorem applyB_congr {b : Nat} {f g : Nat → Option Bx} (h : f b = g b) : ∀ {bs : List (Nat × Option Bx)}, applyB bs f b = applyB bs g b
  | [] => h
  | (k, x) :: r => by simp only [applyB, applyB_congr h]
theorem applyB_in {b : Nat} {f g : Nat → Option Bx} : ∀ {bs : List (Nat × Option Bx)}, (∃ x ∈ bs, x.1 = b) → applyB bs f b = applyB bs g b
  | [], h => by obtain ⟨x, hx, _⟩ := h; cases hx
  | (k, x) :: r, h => by
    simp only [applyB, cnd_if]
    split
    · rfl
    · rename_i hb
      refine applyB_in ?_
      obtain ⟨y, hy, hyb⟩ := h
      rcases List.mem_cons.1 hy with rfl | hy
      · exact absurd hyb.symm hb
      · exact ⟨y, hy, hyb⟩
theorem apply_box_ne {b : Nat} (h : ¬ keyOf e b) : (e.apply own st).box b = st.box b := applyB_ne fun x hx hb => h ⟨x, hx, hb⟩
theorem apply_box_congr {b : Nat} {s1 s2 : ASt} (h : s1.box b = s2.box b) : (e.apply own s1).box b = (e.apply own s2).box b := applyB_congr h
variable {u v : Nat → Bool}
theorem applyM_slot {t : Nat} : ∀ (l : List ER) (k : Nat) (s1 s2 : ASt), s1.slot t = s2.slot t → (∀ i x, l[i]? = some x → u (k + i) = v (k + i) ∨ ∀ d tv, x.eff.dst = some (d, tv) → d ≠ t) →
    (applyM u k l s1).slot t = (applyM v k l s2).slot t
  | [], _, _, _, h, _ => h
  | x :: l, k, s1, s2, h, hx => by
    refine applyM_slot l (Nat.succ k) _ _ ?_ (fun i y hy => ?_)
    · rcases hx 0 x rfl with h1 | h1
      · rw [Nat.add_zero] at h1
        rw [h1]
        cases v k with
        | true => exact apply_slot_congr h
        | false => exact h
      · cases u k <;> cases v k <;> simp only [cnd, apply_slot_ne h1, h]
    · have := hx (i + 1) y (by simpa using hy)
      rw [show Nat.succ k + i = k + (i + 1) by omega]
      exact this
theorem applyM_box {b : Nat} : ∀ (l : List ER) (k : Nat) (s1 s2 : ASt), s1.box b = s2.box b → (∀ i x, l[i]? = some x → u (k + i) = v (k + i) ∨ ¬ keyOf x.eff b) →
    (applyM u k l s1).box b = (applyM v k l s2).box b
  | [], _, _, _, h, _ => h
  | x :: l, k, s1, s2, h, hx => by
    refine applyM_box l (Nat.succ k) _ _ ?_ (fun i y hy => ?_)
    · rcases hx 0 x rfl with h1 | h1
      · rw [Nat.add_zero] at h1
        rw [h1]
        cases v k with
        | true => exact apply_box_congr h
        | false => exact h
      · cases u k <;> cases v k <;> simp only [cnd, apply_box_ne h1, h]
    · have := hx (i + 1) y (by simpa using hy)
      rw [show Nat.succ k + i = k + (i + 1) by omega]
      exact this
theorem applyM_congr : ∀ (l : List ER) (k : Nat) (s : ASt), (∀ i, i < l.length → u (k + i) = v (k + i)) → applyM u k l s = applyM v k l s
  | [], _, _, _ => rfl
  | x :: l, k, s, h => by
    simp only [applyM]
    have h0 := h 0 (by simp)
    rw [Nat.add_zero] at h0
    rw [h0]
    exact applyM_congr l _ _ (fun i hi => by rw [show Nat.succ k + i = k + (i + 1) by omega]; exact h (i + 1) (by simp; omega))
theorem applyM_append : ∀ (l1 l2 : List ER) (k : Nat) (s : ASt), applyM u k (l1 ++ l2) s = applyM u (k + l1.length) l2 (applyM u k l1 s)
  | [], _, _, _ => rfl
  | x :: l1, l2, k, s => by
    simp only [List.cons_append, applyM]
    rw [applyM_append l1 l2]
    simp [Nat.add_assoc, Nat.add_comm 1]
theorem applyM_on : ∀ (l : List ER) (k : Nat) (s : ASt), (∀ i, i < l.length → u (k + i) = true) → applyM u k l s = applyAll l s
  | [], _, _, _ => rfl
  | x :: l, k, s, h => by
    simp only [applyM, applyAll]
    have h0 := h 0 (by simp)
    rw [Nat.add_zero] at h0
    rw [h0]
    exact applyM_on l _ _ (fun i hi => by rw [show Nat.succ k + i = k + (i + 1) by omega]; exact h (i + 1) (by simp; omega))
structure Disj (e f : Eff) : Prop where
  dst : ∀ d tv d' tv', e.dst = some (d, tv) → f.dst = some (d', tv') → d ≠ d'
  bxs : ∀ b, keyOf e b → ¬ keyOf f b
theorem apply_comm {e f : Eff} {o1 o2 : List (Nat × Bool)} {s : ASt} (h : Disj e f) : f.apply o2 (e.apply o1 s) = e.apply o1 (f.apply o2 s) := by
  have hs : ∀ t, (f.apply o2 (e.apply o1 s)).slot t = (e.apply o1 (f.apply o2 s)).slot t := by
    intro t
    by_cases h1 : ∃ tv, e.dst = some (t, tv)
    · obtain ⟨tv, h1⟩ := h1
      rw [apply_slot_ne (e := f) (fun d' tv' hd' => (h.dst t tv d' tv' h1 hd').symm)]
      unfold Eff.apply
      simp only [h1, cnd_if, if_true]
    · have h2 : ∀ d tv, e.dst = some (d, tv) → d ≠ t := fun d tv hd heq => h1 ⟨tv, heq ▸ hd⟩
      rw [apply_slot_ne h2]
      exact apply_slot_congr (apply_slot_ne h2)
  have hb : ∀ b, (f.apply o2 (e.apply o1 s)).box b = (e.apply o1 (f.apply o2 s)).box b := by
    intro b
    by_cases h1 : keyOf e b
    · rw [apply_box_ne (h.bxs b h1)]
      have := apply_box_ne (own := o2) (st := s) (h.bxs b h1)
      exact (apply_box_congr this).symm
    · rw [apply_box_ne h1]
      exact apply_box_congr (apply_box_ne h1)
  have := funext hs
  have := funext hb
  show ASt.mk _ _ = ASt.mk _ _
  congr 1
theorem applyM_comm {o1 : List (Nat × Bool)} : ∀ (l : List ER) (k : Nat) (s : ASt), (∀ i y, l[i]? = some y → u (k + i) = true → Disj e y.eff) → applyM u k l (e.apply o1 s) = e.apply o1 (applyM u k l s)
  | [], _, _, _ => rfl
  | x :: l, k, s, h => by
    simp only [applyM]
    have h0 := h 0 x rfl
    rw [Nat.add_zero] at h0
    have ih := fun s => applyM_comm (o1 := o1) l (Nat.succ k) s (fun i y hy hu => h (i + 1) y (by simpa using hy) (by rw [show k + (i + 1) = Nat.succ k + i by omega]; exact hu))
    cases hu : u k with
    | true =>
      simp only [cnd]
      rw [apply_comm (h0 hu)]
      exact ih _
    | false => exact ih _
theorem applyM_step {l : List ER} {x : ER} {k : Nat} {s : ASt} (hx : l[k]? = some x) (hu : u k = false) (hv : v k = true) (huv : ∀ i, i ≠ k → v i = u i)
    (hd : ∀ i y, l[i]? = some y → k < i → u i = true → Disj x.eff y.eff) : applyM v 0 l s = x.eff.apply x.own (applyM u 0 l s) := by
  obtain ⟨hk, hx'⟩ := List.getElem?_eq_some_iff.1 hx
  have hl : l = l.take k ++ x :: l.drop (k + 1) := by
    rw [← hx', List.getElem_cons_drop, List.take_append_drop]
  rw [hl]
  have hlen : (l.take k).length = k := by simp; omega
  rw [applyM_append, applyM_append, hlen, Nat.zero_add]
  simp only [applyM, hu, hv, cnd]
  rw [applyM_congr (u := v) (v := u) (l.take k) 0 s (fun i hi => by rw [hlen] at hi; exact huv _ (by omega)),
    applyM_congr (u := v) (v := u) (l.drop (k + 1)) (Nat.succ k) _ (fun i hi => huv _ (by omega))]
  refine applyM_comm _ _ _ (fun i y hy hui => hd (k + 1 + i) y ?_ (by omega) hui)
  rw [List.getElem?_drop] at hy
  exact hy
theorem mem_dstsM {t : Nat} : ∀ {l : List Oper} {k : Nat}, t ∈ dstsM u k l ↔ ∃ j o, l[j]? = some o ∧ o.dst = some t ∧ u (k + j) = true
  | [], k => by simp [dstsM]
  | p :: l, k => by
    have ih := mem_dstsM (t := t) (l := l) (k := Nat.succ k)
    constructor
    · intro h
      simp only [dstsM] at h
      have hr : t ∈ dstsM u (Nat.succ k) l → ∃ j o, (p :: l)[j]? = some o ∧ o.dst = some t ∧ u (k + j) = true := by
        intro h
        obtain ⟨j, o, h1, h2, h3⟩ := ih.1 h
        exact ⟨j + 1, o, by simpa using h1, h2, by rw [show k + (j + 1) = Nat.succ k + j by omega]; exact h3⟩
      split at h
      · rename_i d hd
        cases hu : u k with
        | true =>
          rw [hu] at h
          rcases List.mem_cons.1 h with rfl | h
          · exact ⟨0, p, rfl, hd, hu⟩
          · exact hr h
        | false => rw [hu] at h; exact hr h
      · exact hr h
    · rintro ⟨j, o, h1, h2, h3⟩
      cases j with
      | zero =>
        simp at h1
        subst h1
        simp only [dstsM, h2]
        rw [Nat.add_zero] at h3
        rw [h3]
        simp [cnd]
      | succ j =>
        have : t ∈ dstsM u (Nat.succ k) l := ih.2 ⟨j, o, by simpa using h1, h2, by rw [show Nat.succ k + j = k + (j + 1) by omega]; exact h3⟩
        simp only [dstsM]
        split
        · cases u k <;> simp [cnd, this]
        · exact this
theorem nodup_inj {l : List Oper} (h : nodup (l.filterMap (·.dst)) = true) : ∀ {i j : Nat} {p q : Oper} {d : Nat}, l[i]? = some p → l[j]? = some q → p.dst = some d → q.dst = some d → i = j := by
  induction l with
  | nil => intro i j p q d h1; simp at h1
  | cons x l ih =>
    intro i j p q d h1 h2 h3 h4
    have hmem : ∀ (k : Nat) (r : Oper), l[k]? = some r → r.dst = some d → d ∈ l.filterMap (·.dst) := fun k r hk hr => List.mem_filterMap.2 ⟨r, List.mem_of_getElem? hk, hr⟩
    cases i with
    | zero =>
      simp at h1; subst h1
      rw [List.filterMap_cons_some h3] at h
      cases j with
      | zero => rfl
      | succ j => exact absurd (hmem j q (by simpa using h2) h4) (nodup_cons h).1
    | succ i =>
      cases j with
      | zero =>
        simp at h2; subst h2
        rw [List.filterMap_cons_some h4] at h
        exact absurd (hmem i p (by simpa using h1) h3) (nodup_cons h).1
      | succ j =>
        have h' : nodup (l.filterMap (·.dst)) = true := by
          cases hx : x.dst with
          | none => rwa [List.filterMap_cons_none hx] at h
          | some y => rw [List.filterMap_cons_some hx] at h; exact (nodup_cons h).2
        have := ih h' (i := i) (j := j) (p := p) (q := q) (d := d) (by simpa using h1) (by simpa using h2) h3 h4
        omega
theorem wrOf_ok {t : Nat} : ∀ {l : List Oper} {k : Nat}, (∀ j, wrOf l k t = some j → ∃ o, k ≤ j ∧ l[j - k]? = some o ∧ o.dst = some t) ∧ (wrOf l k t = none → ∀ (j : Nat) (o : Oper), l[j]? = some o → o.dst ≠ some t)
  | [], k => ⟨fun j h => (by cases h), fun _ j o h => (by simp at h)⟩
  | p :: l, k => by
    obtain ⟨ih1, ih2⟩ := wrOf_ok (t := t) (l := l) (k := Nat.succ k)
    have ih1' : ∀ j, wrOf l (Nat.succ k) t = some j → ∃ o, k ≤ j ∧ (p :: l)[j - k]? = some o ∧ o.dst = some t := by
      intro j hj
      obtain ⟨o, h1, h2, h3⟩ := ih1 j hj
      refine ⟨o, by omega, ?_, h3⟩
      rw [show j - k = (j - Nat.succ k) + 1 by omega]
      simpa using h2
    have ih2' : wrOf l (Nat.succ k) t = none → p.dst ≠ some t → ∀ (j : Nat) (o : Oper), (p :: l)[j]? = some o → o.dst ≠ some t := by
      intro hn hp j o hj
      cases j with
      | zero => simp at hj; subst hj; exact hp
      | succ j => exact ih2 hn j o (by simpa using hj)
    simp only [wrOf]
    cases hd : p.dst with
    | none => exact ⟨ih1', fun h => ih2' h (by rw [hd]; simp)⟩
    | some d =>
      simp only [cnd_if]
      by_cases hdt : d = t
      · rw [if_pos hdt]
        refine ⟨fun j hj => ?_, fun h => by cases h⟩
        cases hj
        exact ⟨p, Nat.le_refl _, by simp, by rw [hd, hdt]⟩
      · rw [if_neg hdt]
        exact ⟨ih1', fun h => ih2' h (by rw [hd]; simpa using hdt)⟩
theorem subN_spec : ∀ {ks l : List Nat}, subN ks l = true → ∀ x ∈ ks, x ∈ l
  | [], _, _, x, hx => by cases hx
  | k :: ks, l, h, x, hx => by
    obtain ⟨h1, h2⟩ := andd_true h
    rcases List.mem_cons.1 hx with rfl | hx
    · exact mem_spec.1 h1
    · exact subN_spec h2 x hx
theorem disjN_spec : ∀ {ks l : List Nat}, disjN ks l = true → ∀ x ∈ ks, x ∉ l
  | [], _, _, x, hx => by cases hx
  | k :: ks, l, h, x, hx => by
    obtain ⟨h1, h2⟩ := andd_true h
    rcases List.mem_cons.1 hx with rfl | hx
    · intro hm
      rw [mem_spec.2 hm] at h1
      cases h1
    · exact disjN_spec h2 x hx
theorem keysB_mem : ∀ {l : List (Nat × Option Bx)} {b : Nat}, b ∈ keysB l ↔ ∃ x ∈ l, x.1 = b
  | [], b => by simp [keysB]
  | (k, v) :: r, b => by
    simp only [keysB, List.mem_cons, keysB_mem (l := r)]
    constructor
    · rintro (rfl | ⟨x, hx, rfl⟩)
      · exact ⟨_, .inl rfl, rfl⟩
      · exact ⟨x, .inr hx, rfl⟩
    · rintro ⟨x, rfl | hx, rfl⟩
      · exact .inl rfl
      · exact .inr ⟨x, hx, rfl⟩
theorem unord_of {anc : List Nat} {j k : Nat} (h1 : j ≠ k) (h2 : tb (anc.getD k 0) j = false) (h3 : tb (anc.getD j 0) k = false) : unord anc j k = true := by
  unfold unord
  have : Nat.beq j k = false := by
    cases hb : Nat.beq j k with
    | false => rfl
    | true => exact absurd (beq_eq hb) h1
  rw [this, h2, h3]
  rfl
theorem indepRow_ok {anc : List Nat} {M : List (List Nat)} {j : Nat} {ks : List Nat} : ∀ {ops : List Oper} {l : List ER} {k0 : Nat}, indepRow C anc M j ks k0 ops l = true → ∀ k p e, ops[k]? = some p → l[k]? = some e → unord anc j (k0 + k) = true →
    (touches C p = true → ∀ x ∈ ks, x ∈ M.getD (k0 + k) []) ∧ (∀ x ∈ ks, x ∉ keysE e.eff)
  | [], l, k0, _, k, p, e, hp, _, _ => by simp at hp
  | q :: ops, [], k0, _, k, p, e, _, he, _ => by simp at he
  | q :: ops, x :: l, k0, h, k, p, e, hp, he, hu => by
    obtain ⟨ha, hb⟩ := andd_true h
    cases k with
    | zero =>
      simp only [List.getElem?_cons_zero, Option.some.injEq] at hp he
      subst hp he
      rw [Nat.add_zero] at hu ⊢
      rw [hu] at ha
      obtain ⟨h1, h2⟩ := andd_true (show andd _ _ = true from ha)
      refine ⟨fun ht => ?_, disjN_spec h2⟩
      rcases orr_true h1 with h1 | h1
      · rw [ht] at h1; cases h1
      · exact subN_spec h1
    | succ k =>
      have := indepRow_ok hb k p e (by simpa using hp) (by simpa using he) (by rw [show Nat.succ k0 + k = k0 + (k + 1) by omega]; exact hu)
      rw [show Nat.succ k0 + k = k0 + (k + 1) by omega] at this
      exact this
theorem indepAll_ok {anc : List Nat} {M : List (List Nat)} {ops : List Oper} {l : List ER} : ∀ {r : List Oper} {q : List ER} {j0 : Nat}, indepAll C anc M ops l j0 r q = true → ∀ j o e, r[j]? = some o → q[j]? = some e → isStore o = true → indepRow C anc M (j0 + j) (keysE e.eff) 0 ops l = true
  | [], q, j0, _, j, o, e, ho, _, _ => by simp at ho
  | o' :: r, [], j0, _, j, o, e, _, he, _ => by simp at he
  | o' :: r, e' :: q, j0, h, j, o, e, ho, he, hs => by
    obtain ⟨ha, hb⟩ := andd_true h
    cases j with
    | zero =>
      simp only [List.getElem?_cons_zero, Option.some.injEq] at ho he
      subst ho he
      rw [hs] at ha
      rw [Nat.add_zero]
      exact ha
    | succ j =>
      have := indepAll_ok hb j o e (by simpa using ho) (by simpa using he) hs
      rw [show Nat.succ j0 + j = j0 + (j + 1) by omega] at this
      exact this
def Indep (C : Ctx) (anc : List Nat) (M : List (List Nat)) (ops : List Oper) (l : List ER) : Prop :=
  ∀ j k o p ej ek, ops[j]? = some o → ops[k]? = some p → l[j]? = some ej → l[k]? = some ek → isStore o = true → unord anc j k = true → (touches C p = true → ∀ x, keyOf ej.eff x → x ∈ M.getD k []) ∧ (∀ x, keyOf ej.eff x → ¬ keyOf ek.eff x)
theorem indep_of {anc : List Nat} {M : List (List Nat)} {ops : List Oper} {l : List ER} (h : indepAll C anc M ops l 0 ops l = true) : Indep C anc M ops l := by
  intro j k o p ej ek ho hp hj hk hs hu
  have h1 := indepAll_ok h j o ej ho hj hs
  rw [Nat.zero_add] at h1
  have h2 := indepRow_ok h1 k p ek hp hk (by rw [Nat.zero_add]; exact hu)
  rw [Nat.zero_add] at h2
  have hkey : ∀ (e : Eff) x, keyOf e x ↔ x ∈ keysE e := fun e x => by
    unfold keysE
    rw [keysB_mem]
    exact Iff.rfl
  exact ⟨fun ht x hx => h2.1 ht x ((hkey _ _).1 hx), fun x hx hx2 => h2.2 x ((hkey _ _).1 hx) ((hkey _ _).1 hx2)⟩
def rstA (C : Ctx) (ops : List Oper) (anc : List Nat) (M : List (List Nat)) (st0 : ASt) (l : List ER) (k : Nat) (o : Oper) : ASt := restrA ops anc k (touches C o) (M.getD k []) (applyM (tb (anc.getD k 0)) 0 l st0)
structure DrAt (C : Ctx) (ops : List Oper) (anc : List Nat) (M : List (List Nat)) (st0 : ASt) (l : List ER) (k : Nat) (o : Oper) (own : List (Nat × Bool)) (e : Eff) : Prop where
  at_ : l[k]? = some ⟨own, underO (rstA C ops anc M st0 l k o) own e.need, e⟩
  hown : ownOf ops (dstsM (tb (anc.getD k 0)) 0 ops) (rstA C ops anc M st0 l k o) o = some own
  ev : evOp C own (dstsM (tb (anc.getD k 0)) 0 ops) (rstA C ops anc M st0 l k o) o = some e
  dst : dstOk e.dst o.dst = true
  keys : keysOk C o e = true
  gb : nott (andd (isGuarded o) (match e.bxs with | [] => false | _ => true)) = true
theorem rstA_snoc {ops : List Oper} {anc : List Nat} {M : List (List Nat)} {st0 : ASt} {l : List ER} {x : ER} {k : Nat} (hA : tb (anc.getD k 0) l.length = false) : rstA C ops anc M st0 (l ++ [x]) k o = rstA C ops anc M st0 l k o := by
  unfold rstA
  rw [applyM_append]
  simp only [applyM, Nat.zero_add, hA, cnd]
theorem evDr_ok {ops : List Oper} {anc : List Nat} {M : List (List Nat)} {st0 : ASt} (hA : ∀ k i, k < ops.length → tb (anc.getD k 0) i = true → i < k) : ∀ {r pre : List Oper} {acc l : List ER}, evDr C ops anc M st0 r acc.length acc = some l → pre.length = acc.length → ops = pre ++ r →
    (∀ k o, k < acc.length → ops[k]? = some o → ∃ own e, DrAt C ops anc M st0 acc k o own e) → l.length = ops.length ∧ ∀ k o, ops[k]? = some o → ∃ own e, DrAt C ops anc M st0 l k o own e
  | [], pre, acc, l, h, hl, hp, hd => by
    simp only [evDr, Option.some.injEq] at h; subst h
    rw [List.append_nil] at hp; subst hp
    exact ⟨hl.symm, fun k o hk => hd k o (by rw [← hl]; exact (List.getElem?_eq_some_iff.1 hk).1) hk⟩
  | o :: r, pre, acc, l, h, hl, hp, hd => by
    simp only [evDr] at h
    split at h
    case h_2 => cases h
    rename_i own hown
    split at h
    case h_2 => cases h
    rename_i e he
    obtain ⟨hc, h⟩ := cnd_some h
    obtain ⟨hc1, hc⟩ := andd_true hc
    obtain ⟨hc2, hc⟩ := andd_true hc
    have hc4 := hc
    have hko : acc.length < ops.length := by rw [hp]; simp; omega
    have hat : ops[acc.length]? = some o := by rw [hp, ← hl]; simp
    rw [app_eq] at h
    refine evDr_ok hA (pre := pre ++ [o]) (acc := acc ++ [_]) (by simpa using h) (by simp [hl]) (by simp [hp]) (fun k o' hk hk' => ?_)
    have hoff : tb (anc.getD k 0) acc.length = false := by
      cases hb : tb (anc.getD k 0) acc.length with
      | false => rfl
      | true =>
        have := hA k _ (List.getElem?_eq_some_iff.1 hk').1 hb
        simp at hk
        omega
    simp only [List.length_append, List.length_cons, List.length_nil] at hk
    rcases Nat.lt_or_ge k acc.length with hlt | hge
    · obtain ⟨own', e', hD⟩ := hd k o' hlt hk'
      refine ⟨own', e', ?_⟩
      exact { at_ := by rw [List.getElem?_append_left hlt, rstA_snoc hoff]; exact hD.at_
              hown := by rw [rstA_snoc hoff]; exact hD.hown
              ev := by rw [rstA_snoc hoff]; exact hD.ev
              dst := hD.dst, keys := hD.keys, gb := hD.gb }
    · have hkk : k = acc.length := by omega
      subst hkk
      rw [hat] at hk'
      cases hk'
      refine ⟨own, e, ?_⟩
      exact { at_ := by rw [rstA_snoc hoff]; simp [rstA]
              hown := by rw [rstA_snoc hoff]; exact hown
              ev := by rw [rstA_snoc hoff]; exact he
              dst := hc1, keys := hc2, gb := hc4 }
theorem RegM.congr {V : List Nat} (h : RegM φ ν m W st a w) (hW : ∀ d, d ∈ W ↔ d ∈ V) : RegM φ ν m V st a w :=
  ⟨h.sat, fun t g hg x hx => (hW _).1 (h.tags t g hg x hx), fun d hd => h.yes d ((hW _).2 hd)⟩
def undone (u : Nat → Bool) : Nat → Nat
  | 0 => 0
  | n + 1 => undone u n + (if u n = true then 0 else 1)
theorem undone_congr : ∀ n, (∀ i, i < n → u i = v i) → undone u n = undone v n
  | 0, _ => rfl
  | n + 1, h => by simp only [undone]; rw [undone_congr n (fun i hi => h i (by omega)), h n (by omega)]
theorem undone_step {k : Nat} (hu : u k = false) (hv : v k = true) (huv : ∀ i, i ≠ k → v i = u i) : ∀ n, k < n → undone u n = undone v n + 1
  | 0, h => by omega
  | n + 1, h => by
    simp only [undone]
    by_cases hk : k = n
    · subst hk
      rw [undone_congr k (fun i hi => (huv i (by omega)).symm), hu, hv]
      simp
    · rw [undone_step hu hv huv n (by omega), huv n (by omega)]
      omega
theorem undone_zero : ∀ n, undone u n = 0 → ∀ i, i < n → u i = true
  | 0, _, i, hi => by omega
  | n + 1, h, i, hi => by
    simp only [undone] at h
    by_cases hin : i = n
    · subst hin
      cases hu : u i with
      | true => rfl
      | false => rw [hu] at h; simp at h
    · exact undone_zero n (by omega) i (by omega)
theorem undone_all : ∀ n, (∀ i, i < n → u i = true) → undone u n = 0
  | 0, _ => rfl
  | n + 1, h => by simp only [undone]; rw [undone_all n (fun i hi => h i (by omega)), h n (by omega)]; simp
theorem undone_none : ∀ n, (∀ i, i < n → u i = false) → undone u n = n
  | 0, _ => rfl
  | n + 1, h => by simp only [undone]; rw [undone_none n (fun i hi => h i (by omega)), h n (by omega)]; simp
theorem keys_touch {b : Nat} (h : keysOk C o e = true) (hk : keyOf e b) : touches C o = true ∧ (isStore o = true ∨ o.dst = some b) := by
  obtain ⟨x, hx, rfl⟩ := hk
  rcases orr_true h with h | h
  · unfold noBx at h
    split at h
    · rename_i hb; rw [hb] at hx; cases hx
    · cases h
  · obtain ⟨h1, h2⟩ := andd_true h
    refine ⟨h1, ?_⟩
    rcases orr_true h2 with h2 | h2
    · exact .inl h2
    · have := allB_spec h2 x hx
      split at this
      · rename_i d hd; exact .inr (by rw [hd, beq_eq this])
      · cases this
def StepH (P : Program) (C : Ctx) (φ : Fr) (ops : List Oper) (anc : List Nat) (M : List (List Nat)) (st0 : ASt) (l : List ER) (J : (Nat → Bool) → Prop) (Q : Exit → Act → World → Prop) : Prop :=
  ∀ (i : Nat) (o : Oper) (own : List (Nat × Bool)) (e : Eff) (u : Nat → Bool) (a : Act) (w : World) (ν : Nat → Bool) (m : Map) (K : Act → World → Prop), ops[i]? = some o → DrAt C ops anc M st0 l i o own e → J u → u i = false →
    (∀ j, tb (anc.getD i 0) j = true → u j = true) → Sub (rstA C ops anc M st0 l i o) (applyM u 0 l st0) (dstsM (tb (anc.getD i 0)) 0 ops) (dstsM u 0 ops) → (∀ d, o.dst = some d → d ∉ dstsM u 0 ops) → RegM φ ν m (dstsM u 0 ops) (applyM u 0 l st0) a w →
    ((∀ v : Nat → Bool, v i = true → (∀ j, j ≠ i → v j = u j) → J v) → ∀ a' w' ν', (∃ m', RegM φ ν' m' (consO o.dst (dstsM u 0 ops)) (e.apply own (applyM u 0 l st0)) a' w') → K a' w') → wpOp P ops.toArray Q i K a w
theorem drawn_ok {ops : List Oper} {anc : List Nat} {M : List (List Nat)} {st0 : ASt} {l : List ER} {J : (Nat → Bool) → Prop}
    (hnd : nodup (ops.filterMap (·.dst)) = true) (hind : Indep C anc M ops l) (hanc : ∀ j o, ops[j]? = some o → AncAt o anc j) (hlen : l.length = ops.length)
    (hl : ∀ k o, ops[k]? = some o → ∃ own e, DrAt C ops anc M st0 l k o own e) (hstep : StepH P C φ ops anc M st0 l J Q)
    (hQ : ∀ u, (∀ i, i < ops.length → u i = true) → J u → ∀ a w ν W, (∃ m, RegM φ ν m W (applyAll l st0) a w) → Q .normal a w) :
    ∀ (f : Nat) (u : Array Bool) (a : Act) (w : World) (ν : Nat → Bool), undone (fun i => u.getD i false) ops.length = f → u.size = ops.length → J (fun i => u.getD i false) →
      (∀ j o, ops[j]? = some o → u.getD j false = true → ∀ x ∈ o.after, Region.binds .any x = true → u.getD x.on false = true) →
      (∃ m, RegM φ ν m (dstsM (fun i => u.getD i false) 0 ops) (applyM (fun i => u.getD i false) 0 l st0) a w) → wpAny P .any ops.toArray Q f u a w := by
  have hsome : ∀ j, j < ops.length → ∃ o, ops[j]? = some o := fun j hj => ⟨ops[j], List.getElem?_eq_getElem hj⟩
  have hback : ∀ k i, k < ops.length → tb (anc.getD k 0) i = true → i < k := by
    intro k
    induction k using Nat.strongRecOn with
    | _ k ih =>
      intro i hk hi
      obtain ⟨o, ho⟩ := hsome k hk
      obtain ⟨x, _, _, hlt, h | h⟩ := (hanc k o ho).why i hi
      · omega
      · have := ih x.on hlt i (by omega) h; omega
  have hsz : ∀ (u : Array Bool) j, u.size = ops.length → (u.getD j true = false ↔ j < ops.length ∧ u.getD j false = false) := by
    intro u j hu
    simp only [Array.getD_eq_getD_getElem?]
    rcases Nat.lt_or_ge j u.size with h | h
    · rw [Array.getElem?_eq_getElem h]; simp; omega
    · rw [Array.getElem?_eq_none h]; simp; omega
  have hcl : ∀ (u : Array Bool), u.size = ops.length → (∀ j o, ops[j]? = some o → u.getD j false = true → ∀ x ∈ o.after, Region.binds .any x = true → u.getD x.on false = true) →
      ∀ j i, u.getD j false = true → tb (anc.getD j 0) i = true → u.getD i false = true := by
    intro u hu hc j
    induction j using Nat.strongRecOn with
    | _ j ih =>
      intro i hj hi
      have hjl : j < ops.length := by
        rcases Nat.lt_or_ge j u.size with h | h
        · omega
        · rw [Array.getD_eq_getD_getElem?, Array.getElem?_eq_none h] at hj; cases hj
      obtain ⟨o, ho⟩ := hsome j hjl
      obtain ⟨x, hx, hb, hlt, h | h⟩ := (hanc j o ho).why i hi
      · rw [← h]; exact hc j o ho hj x hx hb
      · exact ih x.on hlt i (hc j o ho hj x hx hb) h
  intro f
  induction f with
  | zero =>
    intro u a w ν hf hu hJ hc hr
    have hall := undone_zero _ hf
    refine ⟨?_, ?_⟩
    · rcases List.eq_nil_or_concat (Region.ready .any ops.toArray u) with h | ⟨_, j, h⟩
      · exact h
      · have hj : j ∈ Region.ready .any ops.toArray u := by rw [h]; simp
        have h2 := (hsz u j hu).1 (mem_ready.1 hj).1
        have h1 : u.getD j false = true := hall j h2.1
        rw [h1] at h2
        cases h2.2
    · rw [applyM_on l 0 st0 (fun i hi => by rw [Nat.zero_add]; exact hall i (by omega))] at hr
      exact hQ _ hall hJ a w ν _ hr
  | succ f ih =>
    intro u a w ν hf hu hJ hc hr
    refine ⟨fun hnil => ?_, fun i hi => ?_⟩
    · have hall : ∀ i, i < ops.length → u.getD i false = true := by
        intro i
        induction i using Nat.strongRecOn with
        | _ i ih2 =>
          intro hi
          cases hui : u.getD i false with
          | true => rfl
          | false =>
            obtain ⟨o, ho⟩ := hsome i hi
            have : i ∈ Region.ready .any ops.toArray u := mem_ready.2 ⟨(hsz u i hu).2 ⟨hi, hui⟩, o, by simpa using ho, fun x hx hb => by
              have := (hanc i o ho).deps x hx hb
              exact ih2 x.on this.1 (by omega)⟩
            rw [hnil] at this
            cases this
      have := undone_all (u := fun i => u.getD i false) ops.length hall
      omega
    · obtain ⟨h1, o, ho, hdeps⟩ := mem_ready.1 hi
      obtain ⟨hilt, hui⟩ := (hsz u i hu).1 h1
      have ho : ops[i]? = some o := by simpa using ho
      obtain ⟨own, e, hA⟩ := hl i o ho
      obtain ⟨m, hr⟩ := hr
      have hclu := hcl u hu hc
      have hancu : ∀ j, tb (anc.getD i 0) j = true → u.getD j false = true := by
        intro j hj
        obtain ⟨x, hx, hb, hlt, h | h⟩ := (hanc i o ho).why j hj
        · rw [← h]; exact hdeps x hx hb
        · exact hclu x.on j (hdeps x hx hb) h
      have hlt_of : ∀ j, u.getD j false = true → j < ops.length := by
        intro j hj
        rcases Nat.lt_or_ge j u.size with h | h
        · omega
        · rw [Array.getD_eq_getD_getElem?, Array.getElem?_eq_none h] at hj; cases hj
      -- a slot that is known: its writer has come up just if it stands ahead
      have hknown : ∀ t, knownA ops anc i t = true → ∀ (j : Nat) (p : Oper), ops[j]? = some p → p.dst = some t → tb (anc.getD i 0) j = u.getD j false := by
        intro t hk j p hj hp
        have hjl : j < ops.length := (List.getElem?_eq_some_iff.1 hj).1
        unfold knownA at hk
        split at hk
        · rename_i hw
          exact absurd hp ((wrOf_ok (t := t) (l := ops) (k := 0)).2 hw j p hj)
        · rename_i j' hw
          obtain ⟨q, _, hq, hqd⟩ := (wrOf_ok (t := t) (l := ops) (k := 0)).1 j' hw
          have hjj : j' = j := by
            rw [Nat.sub_zero] at hq
            exact nodup_inj hnd hq hj hqd hp
          subst hjj
          cases hb1 : tb (anc.getD i 0) j' with
          | true => rw [hancu j' hb1]
          | false =>
            rw [hb1] at hk
            simp only [orr] at hk
            cases hb2 : Nat.beq j' i with
            | true => rw [beq_eq hb2, hui]
            | false =>
              rw [hb2] at hk
              simp only [orr] at hk
              cases huj : u.getD j' false with
              | false => rfl
              | true => have := hclu j' i huj hk; rw [hui] at this; cases this
      have hat : ∀ (j : Nat) (x : ER), l[j]? = some x → ∃ p own e, ops[j]? = some p ∧ DrAt C ops anc M st0 l j p own e ∧ x.eff = e := by
        intro j x hx
        obtain ⟨p, hp⟩ := hsome j (by have := (List.getElem?_eq_some_iff.1 hx).1; omega)
        obtain ⟨own', e', hA'⟩ := hl j p hp
        have := hA'.at_
        rw [hx] at this
        cases this
        exact ⟨p, own', e', hp, hA', rfl⟩
      have hsub : Sub (rstA C ops anc M st0 l i o) (applyM (fun i => u.getD i false) 0 l st0) (dstsM (tb (anc.getD i 0)) 0 ops) (dstsM (fun i => u.getD i false) 0 ops) := by
        refine ⟨fun t g hg => ?_, fun b => ?_, fun t g hg => ?_⟩
        · simp only [rstA, restrA] at hg
          obtain ⟨hk, hg⟩ := cnd_some hg
          rw [← hg]
          refine applyM_slot l 0 st0 st0 rfl (fun j x hx => ?_)
          obtain ⟨p, own', e', hp, hA', rfl⟩ := hat j x hx
          by_cases hd : ∃ tv, x.eff.dst = some (t, tv)
          · obtain ⟨tv, hd⟩ := hd
            left
            have hpd : p.dst = some t := by
              rcases dstOk_spec hA'.dst with ⟨h3, _⟩ | ⟨_, _, h3, h4⟩
              · rw [hd] at h3; cases h3
              · rw [hd] at h3; cases h3; exact h4
            rw [Nat.zero_add]
            exact (hknown t hk j p hp hpd).symm
          · right; intro d tv h3 h4; subst h4; exact hd ⟨tv, h3⟩
        · simp only [rstA, restrA]
          cases hc2 : andd (touches C o) (andd (knownA ops anc i b) (nott (Sy.mem b (M.getD i [])))) with
          | false => left; rfl
          | true =>
            right
            obtain ⟨ht, hk⟩ := andd_true hc2
            obtain ⟨hk, hmk⟩ := andd_true hk
            simp only [cnd]
            refine applyM_box l 0 st0 st0 rfl (fun j x hx => ?_)
            obtain ⟨p, own', e', hp, hA', rfl⟩ := hat j x hx
            by_cases hkey : keyOf x.eff b
            · left
              rw [Nat.zero_add]
              obtain ⟨htp, hst | hpd⟩ := keys_touch hA'.keys hkey
              · cases hb1 : tb (anc.getD i 0) j with
                | true => exact (hancu j hb1).symm
                | false =>
                  cases huj : u.getD j false with
                  | false => rfl
                  | true =>
                    have hne : j ≠ i := fun h3 => by subst h3; rw [hui] at huj; cases huj
                    have hji : tb (anc.getD j 0) i = false := by
                      cases h4 : tb (anc.getD j 0) i with
                      | false => rfl
                      | true => have := hclu j i huj h4; rw [hui] at this; cases this
                    have h5 := (hind j i p o _ _ hp ho hx hA.at_ hst (unord_of hne hb1 hji)).1 ht b hkey
                    rw [mem_spec.2 h5] at hmk
                    cases hmk
              · exact hknown b hk j p hp hpd
            · exact .inr hkey
        · simp only [rstA, restrA] at hg
          obtain ⟨hk, _⟩ := cnd_some hg
          have : t ∈ dstsM (tb (anc.getD i 0)) 0 ops ↔ t ∈ dstsM (fun i => u.getD i false) 0 ops := by
            rw [mem_dstsM, mem_dstsM]
            constructor
            · rintro ⟨j, p, h3, h4, h5⟩; rw [Nat.zero_add] at h5; exact ⟨j, p, h3, h4, by rw [Nat.zero_add, ← hknown t hk j p h3 h4]; exact h5⟩
            · rintro ⟨j, p, h3, h4, h5⟩; rw [Nat.zero_add] at h5; exact ⟨j, p, h3, h4, by rw [Nat.zero_add, hknown t hk j p h3 h4]; exact h5⟩
          cases h3 : Sy.mem t (dstsM (tb (anc.getD i 0)) 0 ops) with
          | true => exact (mem_spec.2 (this.1 (mem_spec.1 h3))).symm
          | false =>
            cases h4 : Sy.mem t (dstsM (fun i => u.getD i false) 0 ops) with
            | false => rfl
            | true => rw [mem_spec.2 (this.2 (mem_spec.1 h4))] at h3; cases h3
      -- what has come up behind it
      have hget : ∀ j, (u.setIfInBounds i true).getD j false = if j = i then true else u.getD j false := by
        intro j
        simp only [Array.getD_eq_getD_getElem?]
        by_cases hji : j = i
        · subst hji
          rw [Array.getElem?_setIfInBounds_self_of_lt (by omega)]
          simp
        · rw [Array.getElem?_setIfInBounds_ne (Ne.symm hji), if_neg hji]
      refine hstep i o own e (fun i => u.getD i false) a w ν m _ ho hA hJ hui hancu hsub (fun d hd hmem => ?_) hr (fun hJ' a' w' ν' hr' => ?_)
      · obtain ⟨j, p, h3, h4, h5⟩ := mem_dstsM.1 hmem
        rw [Nat.zero_add] at h5
        rw [nodup_inj hnd h3 ho h4 hd, hui] at h5
        cases h5
      · obtain ⟨m', hr'⟩ := hr'
        refine ih (u.setIfInBounds i true) a' w' ν' ?_ (by simpa using hu) (hJ' _ (by simp only [hget]; simp) (fun j hj => by simp only [hget, if_neg hj])) (fun j p hj huj x hx hb => ?_) ⟨m', ?_⟩
        · have := undone_step (u := fun i => u.getD i false) (v := fun j => (u.setIfInBounds i true).getD j false) (k := i) hui (by simp only [hget]; simp) (fun j hj => by simp only [hget, if_neg hj]) ops.length hilt
          omega
        · rw [hget] at huj ⊢
          split
          · rfl
          · by_cases hji : j = i
            · subst hji
              rw [ho] at hj; cases hj
              exact hdeps x hx hb
            · rw [if_neg hji] at huj; exact hc j p hj huj x hx hb
        · rw [applyM_step (u := fun i => u.getD i false) (v := fun j => (u.setIfInBounds i true).getD j false) hA.at_ hui (by simp only [hget]; simp) (fun j hj => by simp only [hget, if_neg hj]) (fun j y hy hij huj => ?_)]
          · refine hr'.congr fun d => ?_
            have hco : d ∈ consO o.dst (dstsM (fun i => u.getD i false) 0 ops) ↔ o.dst = some d ∨ d ∈ dstsM (fun i => u.getD i false) 0 ops := by
              unfold consO
              cases o.dst with
              | none => simp
              | some d' => simp [eq_comm]
            rw [hco, mem_dstsM, mem_dstsM]
            constructor
            · rintro (h3 | ⟨j, p, h3, h4, h5⟩)
              · exact ⟨i, o, ho, h3, by rw [Nat.zero_add]; simp only [hget]; simp⟩
              · refine ⟨j, p, h3, h4, ?_⟩
                rw [Nat.zero_add] at h5 ⊢
                simp only [hget]
                split
                · rfl
                · exact h5
            · rintro ⟨j, p, h3, h4, h5⟩
              rw [Nat.zero_add] at h5
              simp only [hget] at h5
              by_cases hji : j = i
              · subst hji
                rw [ho] at h3; cases h3
                exact .inl h4
              · rw [if_neg hji] at h5
                exact .inr ⟨j, p, h3, h4, by rw [Nat.zero_add]; exact h5⟩
          · obtain ⟨p, own', e', hp, hA', rfl⟩ := hat j y hy
            have hno : tb (anc.getD j 0) i ≠ true := fun h3 => by have := hclu j i huj h3; rw [hui] at this; cases this
            refine ⟨fun d tv d' tv' h3 h4 h5 => ?_, fun b h3 h4 => ?_⟩
            · subst h5
              have h6 : o.dst = some d := by
                rcases dstOk_spec hA.dst with ⟨h7, _⟩ | ⟨_, _, h7, h8⟩
                · rw [h3] at h7; cases h7
                · rw [h3] at h7; cases h7; exact h8
              have h9 : p.dst = some d := by
                rcases dstOk_spec hA'.dst with ⟨h7, _⟩ | ⟨_, _, h7, h8⟩
                · rw [h4] at h7; cases h7
                · rw [h4] at h7; cases h7; exact h8
              have := nodup_inj hnd ho hp h6 h9
              omega
            · obtain ⟨t1, h6⟩ := keys_touch hA.keys h3
              obtain ⟨t2, h7⟩ := keys_touch hA'.keys h4
              by_cases hs : isStore o = true ∨ isStore p = true
              · have hji : tb (anc.getD j 0) i = false := by
                  cases h8 : tb (anc.getD j 0) i with
                  | false => rfl
                  | true => exact absurd h8 hno
                have hij' : tb (anc.getD i 0) j = false := by
                  cases h8 : tb (anc.getD i 0) j with
                  | false => rfl
                  | true => have := hback i j hilt h8; omega
                rcases hs with hs | hs
                · exact (hind i j o p _ _ ho hp hA.at_ hy hs (unord_of (by omega) hji hij')).2 b h3 h4
                · exact (hind j i p o _ _ hp ho hy hA.at_ hs (unord_of (by omega) hij' hji)).2 b h4 h3
              · rcases h6 with h6 | h6
                · exact hs (.inl h6)
                · rcases h7 with h7 | h7
                  · exact hs (.inr h7)
                  · have := nodup_inj hnd ho hp h6 h7; omega
theorem drew_below (w : World) : Below w.heap.size w { w with drawn := w.drawn + 1 } := ⟨rfl, rfl, rfl, Nat.le_refl _, fun _ _ => rfl⟩
theorem region_ok (hC : CtxOk P C) (hφ : FrOk C.G φ) {id : Nat} {ops : List Oper} {d : Bool} (hD : ∀ o ∈ ops, ∀ d, o.dst = some d → d < φ.n ∧ φ.D d = true) {st0 : ASt} {l : List ER}
    (hnd : nodup (ops.filterMap (·.dst)) = true) (hev : evReg C d ops st0 = some l) (hn : needsHold l) (hr : ∃ m, RegM φ ν m [] st0 a w)
    (hQ : ∀ a w ν W, (∃ m, RegM φ ν m W (applyAll l st0) a w) → Q .normal a w) : (Code.region id ops.toArray d).wp P Q a w := by
  unfold evReg at hev
  cases d with
  | false =>
    refine wp_region ?_
    have := evList_ok (φ := φ) (Q := Q) hC hφ ops hD ops 0 [] st0 a w ν l hev rfl hnd (fun d _ h => (by cases h)) hn hr (fun a' w' ν' W' h => hQ a' w' ν' W' h)
    simpa [List.range_eq_range'] using this
  | true =>
    simp only [cnd] at hev
    split at hev
    case h_2 => cases hev
    rename_i anc hanc
    have hanc' := ancAll_ok (pre := []) (acc := []) hanc rfl (fun j o h => by simp at h)
    simp only [List.nil_append] at hanc'
    have hback : ∀ k i, k < ops.length → tb (anc.getD k 0) i = true → i < k := by
      intro k
      induction k using Nat.strongRecOn with
      | _ k ih =>
        intro i hk hi
        obtain ⟨x, _, _, hlt, h | h⟩ := (hanc' k ops[k] (List.getElem?_eq_getElem hk)).why i hi
        · omega
        · have := ih x.on hlt i (by omega) h; omega
    obtain ⟨M, hevM, hindM⟩ : ∃ M, evDr C ops anc M st0 ops 0 [] = some l ∧ indepAll C anc M ops l 0 ops l = true := by
      unfold evDrawn at hev
      split at hev
      case h_2 => cases hev
      rename_i l1 hl1
      cases hi : indepAll C anc [] ops l1 0 ops l1 with
      | true => rw [hi] at hev; cases hev; exact ⟨_, hl1, hi⟩
      | false =>
        rw [hi] at hev
        simp only [cnd] at hev
        split at hev
        case h_2 => cases hev
        rename_i l2 hl2
        obtain ⟨h1, h2⟩ := cnd_some hev
        cases h2
        exact ⟨_, hl2, h1⟩
    obtain ⟨hlen, hl⟩ := evDr_ok hback (pre := []) (acc := []) hevM rfl rfl (fun k o hk => by simp at hk)
    refine wp_region_any hC.mixed ?_
    have hrep : ∀ i, (Array.replicate ops.toArray.size false).getD i false = false := by
      intro i
      rw [Array.getD_eq_getD_getElem?]
      rcases Nat.lt_or_ge i ops.toArray.size with h | h
      · rw [Array.getElem?_replicate, if_pos h]; rfl
      · rw [Array.getElem?_eq_none (by simpa using h)]; rfl
    refine drawn_ok (φ := φ) (J := fun _ => True) hnd (indep_of hindM) hanc' hlen hl (fun i o own e u a w ν m K ho hA _ hui hancu hsub hdu hr hK => ?_) (fun _ _ _ => hQ) ops.toArray.size _ a _ ν ?_ (by simp) trivial (fun j o _ hj => by rw [hrep] at hj; cases hj) ?_
    · refine step_ok (φ := φ) hC hφ ops (hD o (List.mem_of_getElem? ho)) ho (ownOf_mono hsub hA.hown) (evOp_mono hsub hA.ev) hA.dst hA.gb hdu (fun p hp hh => ?_) hr (hK fun _ _ _ => trivial)
      have h3 : under (rstA C ops anc M st0 l i o) own p := hn _ (List.mem_of_getElem? hA.at_) (under (rstA C ops anc M st0 l i o) own p) (by simp [underO, hp])
      exact under_spec h3 (fun d b hm g c hg hgc => hh d b hm g c (hsub.slot d g hg) hgc)
    · rw [undone_none ops.length (fun i _ => hrep i)]; simp
    · obtain ⟨m, hr⟩ := hr
      refine ⟨m, ?_⟩
      have h1 : applyM (fun i => (Array.replicate ops.toArray.size false).getD i false) 0 l st0 = st0 := by
        have : ∀ (l : List ER) (k : Nat) (s : ASt), applyM (fun i => (Array.replicate ops.toArray.size false).getD i false) k l s = s := by
          intro l
          induction l with
          | nil => intro k s; rfl
          | cons x l ih => intro k s; simp only [applyM]; rw [hrep]; exact ih _ _
        exact this l 0 st0
      have h2 : dstsM (fun i => (Array.replicate ops.toArray.size false).getD i false) 0 ops = [] := by
        cases h3 : dstsM (fun i => (Array.replicate ops.toArray.size false).getD i false) 0 ops with
        | nil => rfl
        | cons t r =>
          have : t ∈ dstsM (fun i => (Array.replicate ops.toArray.size false).getD i false) 0 ops := by rw [h3]; simp
          obtain ⟨j, o, _, _, h5⟩ := mem_dstsM.1 this
          rw [hrep] at h5; cases h5
      rw [h1, h2]
      exact ⟨hr.sat.ext (drew_below w), hr.tags, hr.yes⟩
theorem panCp_spec {f : Nat} {cp : Cp} (h : panCp C o = some (f, cp)) : ∃ c g, o.op = .call c ∧ c.callee = .value (.func f) ∧ C.xt f = none ∧ C.zk f = none ∧ C.pg f = some cp ∧ cp.pn = some g := by
  unfold panCp at h
  split at h
  case h_2 => cases h
  rename_i c hop
  split at h
  case h_2 => cases h
  rename_i f' hcal
  split at h
  case h_2 => cases h
  rename_i hxt
  split at h
  case h_2 => cases h
  rename_i hzk
  split at h
  case h_2 => cases h
  rename_i cp' hcp
  split at h
  case h_2 => cases h
  rename_i g hg
  cases h
  exact ⟨c, g, hop, hcal, hxt, hzk, hcp, hg⟩
theorem step_panT (hC : CtxOk P C) (hφ : FrOk C.G φ) {ops : List Oper} {k : Nat} (hko : ops[k]? = some o) (hoD : ∀ d, o.dst = some d → d < φ.n ∧ φ.D d = true) (hg : isGuarded o = false) {f : Nat} {cp : Cp} (hcp : panCp C o = some (f, cp))
    (he : evOp C [] W st o = some e) {p : Option Prop} {s : ASt} (hat : panAt C st o cp = some (p, true, s)) (hp : ∀ q, p = some q → q) (hs : SatM φ ν m st a w)
    (hQ : ∀ m' w', SatM φ ν m' s a w' → Q (.panic [{ v := cp.pv, recovered := false }]) a w') : wpOp P ops.toArray Q k K a w := by
  obtain ⟨c, g, hop, hcal, hxt, hzk, hpg, hpn⟩ := panCp_spec hcp
  have hgd : o.guard = none := by
    unfold isGuarded at hg
    split at hg
    · assumption
    · cases hg
  unfold wpOp
  have hko' : ops.toArray[k]? = some o := by simpa using hko
  simp only [hko']
  rw [if_pos (by unfold Region.wanted; rw [hgd])]
  refine .inl ?_
  simp only [evOp, hop, hcal, hxt, hzk, hpg] at he
  split at he
  case h_2 => cases he
  rename_i d xs0 hd hxs0
  unfold panAt at hat
  simp only [hop, hxs0] at hat
  split at hat
  case h_2 => cases hat
  rename_i p' b' bx hpan
  simp only [Option.some.injEq, Prod.mk.injEq] at hat
  obtain ⟨rfl, rfl, rfl⟩ := hat
  unfold evPtrN at he
  split at he
  case h_2 => cases he
  rename_i e0 he0
  obtain ⟨hok, fn, hfn, hname, hbody⟩ := hC.pg f cp hpg
  have htags : holdsTags ν [] := fun x hx => by cases hx
  have hneed : e0.need = p' := by
    have h1 := he0
    have h2 := hpan
    unfold evPtr at h1
    unfold evPan at h2
    split at h1
    case h_2 => cases h1
    rename_i ks vs hks hvs
    simp only [hks, hvs] at h2
    split at h1
    case h_2 => cases h1
    rename_i kc0 vc hkc0 hvc
    simp only [hkc0, hvc] at h2
    split at h1
    case h_2 => cases h1
    rename_i kc hkc
    simp only [hkc] at h2
    split at h1
    case h_2 => cases h1
    rename_i x hx
    simp only [hx] at h2
    split at h1
    case h_2 => cases h1
    obtain ⟨_, h1⟩ := cnd_some h1
    simp only [Option.some.injEq] at h1
    simp only [Option.some.injEq, Prod.mk.injEq] at h2
    rw [← h1, ← h2.1]
  refine ok_ptr2 (own := []) (C := C) (args := c.args.map a.eval) he0 hd (by simpa using allSV_ok hs htags hxs0) ?_ hok hφ (by rw [hneed]; exact hp) htags hs hoD (fun h => absurd hpan (h _ _)) (fun p2 b2 hb m' w' hs' => ?_)
  · simp only [execOp, hop, resolve, hcal, Act.eval, Deferred.ofValue, Sem.run_bind, Sem.run_pure, Result.andThen_ok, invoke]
    rw [run_callF hfn hname hbody]
    simp [Act.eval]
  · rw [hpan] at hb
    simp only [Option.some.injEq, Prod.mk.injEq] at hb
    obtain ⟨_, _, rfl⟩ := hb
    exact hQ m' w' hs'
theorem upTo_mem : ∀ {n j : Nat}, j < n → j ∈ upTo n
  | 0, j, h => by omega
  | n + 1, j, h => by
    simp only [upTo, List.mem_cons]
    by_cases hj : j = n
    · exact .inl hj
    · exact .inr (upTo_mem (by omega))
theorem region_pan (hC : CtxOk P C) (hφ : FrOk C.G φ) {id : Nat} {ops : List Oper} {d : Bool} (hD : ∀ o ∈ ops, ∀ d, o.dst = some d → d < φ.n ∧ φ.D d = true) {st0 : ASt} {l : List ER}
    (hnd : nodup (ops.filterMap (·.dst)) = true) (hev : evReg C d ops st0 = some l) {i : Nat} {p : Option Prop} {v : Value} {s : ASt} (hpr : panR C d ops l st0 i = some (p, true, v, s)) (hn : needsHold (l.take i)) (hp : ∀ q, p = some q → q)
    (hr : ∃ m, RegM φ ν m [] st0 a w) (hQ : ∀ a w ν, Sat φ ν s a w → Q (.panic [{ v := v, recovered := false }]) a w) : (Code.region id ops.toArray d).wp P Q a w := by
  unfold panR at hpr
  split at hpr
  case h_2 => cases hpr
  rename_i o hoi
  split at hpr
  case h_2 => cases hpr
  rename_i f cp hcp
  split at hpr
  case h_2 => cases hpr
  rename_i p' b' s' hat
  obtain ⟨hc, hpr⟩ := cnd_some hpr
  obtain ⟨hg, hlast⟩ := andd_true hc
  have hg := nott_true hg
  simp only [Option.some.injEq, Prod.mk.injEq] at hpr
  obtain ⟨rfl, rfl, rfl, rfl⟩ := hpr
  have hil : i < ops.length := (List.getElem?_eq_some_iff.1 hoi).1
  have hoD := hD o (List.mem_of_getElem? hoi)
  have hgn : o.guard = none := by
    unfold isGuarded at hg
    split at hg
    · assumption
    · cases hg
  unfold evReg at hev
  cases d with
  | false =>
    refine wp_region ?_
    simp only [cnd] at hev
    have hsplit : List.range' 0 ops.length = List.range' 0 i ++ (i :: List.range' (i + 1) (ops.length - i - 1)) := by
      rw [show ops.length = i + ((ops.length - i - 1) + 1) by omega, ← List.range'_append_1, Nat.zero_add, List.range'_succ]
      simp
    have := evList_upto (φ := φ) (Q := Q) hC hφ ops hD (i :: List.range' (i + 1) (ops.length - i - 1)) i ops 0 [] st0 a w ν l hev rfl (by omega) hnd (fun d _ h => (by cases h)) hn hr (fun a' w' ν' W' hr' hev' => ?_)
    · rw [← hsplit] at this
      simpa [List.range_eq_range'] using this
    · rw [wpOps_cons]
      rw [show ops.drop i = o :: ops.drop (i + 1) by rw [← (List.getElem?_eq_some_iff.1 hoi).2, List.getElem_cons_drop]] at hev'
      simp only [evList] at hev'
      split at hev'
      case h_2 => cases hev'
      rename_i own hown
      split at hev'
      case h_2 => cases hev'
      rename_i e0 he0
      have hown2 : own = [] := by unfold ownOf at hown; rw [hgn] at hown; simp only [Option.some.injEq] at hown; exact hown.symm
      subst hown2
      obtain ⟨m', hr'⟩ := hr'
      exact step_panT hC hφ hoi hoD hg hcp he0 hat hp hr'.sat (fun m2 w2 hs2 => hQ a' w2 ν' ⟨m2, hs2⟩)
  | true =>
    simp only [cnd] at hev hlast
    unfold lastB at hlast
    split at hev
    case h_2 => cases hev
    rename_i anc hanc
    simp only [hanc] at hlast
    obtain ⟨hl1, hl2⟩ := andd_true hlast
    have hl1 : i + 1 = ops.length := by
      have := beq_eq hl1
      have hlen : ∀ (l : List Oper), lenN l = l.length := by
        intro l
        induction l with
        | nil => rfl
        | cons x l ih => simp [lenN, ih]
      rw [hlen] at this
      exact this
    have hall : ∀ j, j < i → tb (anc.getD i 0) j = true := fun j hj => allB_spec hl2 j (upTo_mem hj)
    have hanc' := ancAll_ok (pre := []) (acc := []) hanc rfl (fun j o h => by simp at h)
    simp only [List.nil_append] at hanc'
    have hback : ∀ k i, k < ops.length → tb (anc.getD k 0) i = true → i < k := by
      intro k
      induction k using Nat.strongRecOn with
      | _ k ih =>
        intro i hk hi
        obtain ⟨x, _, _, hlt, h | h⟩ := (hanc' k ops[k] (List.getElem?_eq_getElem hk)).why i hi
        · omega
        · have := ih x.on hlt i (by omega) h; omega
    obtain ⟨M, hevM, hindM⟩ : ∃ M, evDr C ops anc M st0 ops 0 [] = some l ∧ indepAll C anc M ops l 0 ops l = true := by
      unfold evDrawn at hev
      split at hev
      case h_2 => cases hev
      rename_i l1 hl1
      cases hi : indepAll C anc [] ops l1 0 ops l1 with
      | true => rw [hi] at hev; cases hev; exact ⟨_, hl1, hi⟩
      | false =>
        rw [hi] at hev
        simp only [cnd] at hev
        split at hev
        case h_2 => cases hev
        rename_i l2 hl2
        obtain ⟨h1, h2⟩ := cnd_some hev
        cases h2
        exact ⟨_, hl2, h1⟩
    obtain ⟨hlen, hl⟩ := evDr_ok hback (pre := []) (acc := []) hevM rfl rfl (fun k o hk => by simp at hk)
    refine wp_region_any hC.mixed ?_
    have hrep : ∀ i, (Array.replicate ops.toArray.size false).getD i false = false := by
      intro i
      rw [Array.getD_eq_getD_getElem?]
      rcases Nat.lt_or_ge i ops.toArray.size with h | h
      · rw [Array.getElem?_replicate, if_pos h]; rfl
      · rw [Array.getElem?_eq_none (by simpa using h)]; rfl
    refine drawn_ok (φ := φ) (J := fun u => u i = false) hnd (indep_of hindM) hanc' hlen hl (fun k o' own e u a w ν m K ho hA hJ hui hancu hsub hdu hr hK => ?_) (fun u hu hJ => by have := hu i hil; rw [hJ] at this; cases this) ops.toArray.size _ a _ ν ?_ (by simp) (hrep i) (fun j o _ hj => by rw [hrep] at hj; cases hj) ?_
    · by_cases hki : k = i
      · subst hki
        rw [hoi] at ho
        cases ho
        have hev2 := evOp_mono hsub hA.ev
        have hst : applyM u 0 l st0 = applyAll (l.take k) st0 := by
          have hl' : l = l.take k ++ l.drop k := (List.take_append_drop k l).symm
          have hdk : ∃ x, l.drop k = [x] := by
            have : (l.drop k).length = 1 := by simp; omega
            exact List.length_eq_one_iff.1 this
          obtain ⟨x, hx⟩ := hdk
          conv => lhs; rw [hl', applyM_append]
          have hlk : (l.take k).length = k := by simp; omega
          rw [hlk, hx, Nat.zero_add]
          simp only [applyM, hui, cnd]
          exact applyM_on _ 0 st0 (fun j hj => by rw [Nat.zero_add]; exact hancu j (hall j (by omega)))
        rw [hst] at hr hev2
        have hown2 : own = [] := by have h1 := hA.hown; unfold ownOf at h1; rw [hgn] at h1; simp only [Option.some.injEq] at h1; exact h1.symm
        subst hown2
        exact step_panT hC hφ hoi hoD hg hcp hev2 hat hp hr.sat (fun m2 w2 hs2 => hQ a w2 ν ⟨m2, hs2⟩)
      · refine step_ok (φ := φ) hC hφ ops (hD o' (List.mem_of_getElem? ho)) ho (ownOf_mono hsub hA.hown) (evOp_mono hsub hA.ev) hA.dst hA.gb hdu (fun p hp hh => ?_) hr (hK fun v hv hvu => (hvu i (fun h => hki h.symm)).trans hJ)
        have hkl : k < i := by have := (List.getElem?_eq_some_iff.1 ho).1; omega
        have hmem : (⟨own, underO (rstA C ops anc M st0 l k o') own e.need, e⟩ : ER) ∈ l.take i := by
          refine List.mem_of_getElem? (i := k) ?_
          rw [List.getElem?_take, if_pos hkl]
          exact hA.at_
        have h3 : under (rstA C ops anc M st0 l k o') own p := hn _ hmem (under (rstA C ops anc M st0 l k o') own p) (by simp [underO, hp])
        exact under_spec h3 (fun d b hm g c hg hgc => hh d b hm g c (hsub.slot d g hg) hgc)
    · rw [undone_none ops.length (fun i _ => hrep i)]; simp
    · obtain ⟨m, hr⟩ := hr
      refine ⟨m, ?_⟩
      have h1 : applyM (fun i => (Array.replicate ops.toArray.size false).getD i false) 0 l st0 = st0 := by
        have : ∀ (l : List ER) (k : Nat) (s : ASt), applyM (fun i => (Array.replicate ops.toArray.size false).getD i false) k l s = s := by
          intro l
          induction l with
          | nil => intro k s; rfl
          | cons x l ih => intro k s; simp only [applyM]; rw [hrep]; exact ih _ _
        exact this l 0 st0
      have h2 : dstsM (fun i => (Array.replicate ops.toArray.size false).getD i false) 0 ops = [] := by
        cases h3 : dstsM (fun i => (Array.replicate ops.toArray.size false).getD i false) 0 ops with
        | nil => rfl
        | cons t r =>
          have : t ∈ dstsM (fun i => (Array.replicate ops.toArray.size false).getD i false) 0 ops := by rw [h3]; simp
          obtain ⟨j, o, _, _, h5⟩ := mem_dstsM.1 this
          rw [hrep] at h5; cases h5
      rw [h1, h2]
      exact ⟨hr.sat.ext (drew_below w), hr.tags, hr.yes⟩
end
end Go.Proofs.Ytbnihoioblmgkaa.Sy
end

section
/- The symbolic evaluator is sound: code, with loops (own work). -/
namespace Go.Proofs.Ytbnihoioblmgkaa.Sy
open Go Go.RowKit
set_option linter.unusedVariables false
set_option linter.unusedSimpArgs false
abbrev ν0 : Nat → Bool := fun _ => false
section
variable {φ : Fr} {ν ν' : Nat → Bool} {m : Map} {st : ASt} {a : Act} {w w' : World} {own : List (Nat × Bool)} {W : List Nat} {P : Program} {C : Ctx} {o : Oper} {e : Eff}
  {K : Act → World → Prop} {Q : Exit → Act → World → Prop}
def Plain (st : ASt) : Prop := ∀ t g, st.slot t = some g → g.tags = []
theorem plain_slot {t : Nat} {g : GS} (h : st.plain.slot t = some g) : st.slot t = some g ∧ g.tags = [] := by
  simp only [ASt.plain] at h
  split at h
  · rename_i v hv; cases h; exact ⟨hv, rfl⟩
  · cases h
theorem plain_plain : Plain st.plain := fun t g h => (plain_slot h).2
theorem SatM.plain (h : SatM φ ν m st a w) : SatM φ ν' m st.plain a w :=
  { h with
    slot := fun t g hg _ => h.slot t g (plain_slot hg).1 (by rw [(plain_slot hg).2]; intro x hx; cases hx)
    skip := fun t g hg ht => absurd (by rw [(plain_slot hg).2]; intro x hx; cases hx) ht }
structure KeepW (φ : Fr) (w : World) : Prop where
  old : w.os = φ.w0.os ∧ w.tape = φ.w0.tape ∧ w.output = φ.w0.output ∧ φ.w0.heap.size ≤ w.heap.size
  keep : ∀ b, b < φ.w0.heap.size → ¬ φ.B b → w.heap[b]? = φ.w0.heap[b]?
  keepS : ∀ b, b < φ.w0.heap.size → w.shape? b = φ.w0.shape? b ∧ ∀ p, w.frozen? ⟨b, p, none⟩ = φ.w0.frozen? ⟨b, p, none⟩
theorem SatM.keepW (h : SatM φ ν m st a w) : KeepW φ w := ⟨h.old, h.keep, h.keepS⟩
def KeepA (φ : Fr) (a : Act) : Prop := a.defers = φ.a0.defers ∧ ∀ t, φ.D t = false → a.tmps.getD t undef = φ.a0.tmps.getD t undef
theorem SatM.keepA (h : SatM φ ν m st a w) : KeepA φ a := ⟨h.defers, h.keepT⟩
def exOf : Ex → Exit
  | .normal => .normal | .exit id => .exit id | .ret => .ret | .pan v => .panic [{ v := v, recovered := false }]
def IsOut (e : Exit) : Prop := e = .ret ∨ ∃ v, e = .panic [{ v := v, recovered := false }]
def loopsIn : Code → List Code
  | .seq a b => loopsIn a ++ loopsIn b | .cond _ a b => loopsIn a ++ loopsIn b | .block _ b => loopsIn b | .loop b => [b] | _ => []
def LoopOk {ρ₀ : Type} (P : Program) (G : Gd) (Ret : Exit → Nat → (Nat → Nat → Prop) → ρ₀ → Act → World → Prop) (body : Code) (s : LS ρ₀) : Prop :=
  ∀ (kv : s.K.den) (xv : s.X.den) (φ : Fr) (a : Act) (w : World), FrOk G φ → (∀ p, s.inv = some p → p kv xv) → Fit s.K kv → Fit s.X xv → (∀ d ∈ dsts body, d < φ.n ∧ φ.D d = true) → Sat φ ν0 (tmpl s (enc s.K kv) (enc s.X xv)) a w →
    (Code.loop body).wp P (fun e a' w' => match e with
      | .exit id => id = s.exit ∧ (∀ R, s.R = some R → R kv xv = none) ∧ Sat φ ν0 (tmpl s (enc s.K kv) (enc s.X (s.G kv xv))) a' w'
      | e => IsOut e ∧ ∃ R r, s.R = some R ∧ R kv xv = some r ∧ Ret e φ.n0 φ.X0 r a' w' ∧ KeepW φ w' ∧ KeepA φ a') a w
def SlotVals (a : Act) : List (Nat × Option Nat) → List Value → Prop
  | [], vs => vs = []
  | (t, none) :: r, vs => ∃ vs', vs = a.tmps.getD t undef :: vs' ∧ SlotVals a r vs'
  | (t, some n) :: r, vs => ∃ ds vs' : List Value, a.tmps.getD t undef = .agg ds.toArray ∧ ds.length = n ∧ vs = ds ++ vs' ∧ SlotVals a r vs'
theorem rdS_ok (hs : SatM φ ν m st a w) : ∀ {l : List (Nat × Option Nat)} {cs : List Cell}, rdS st l = some cs → ∃ vs, SlotVals a l vs ∧ CRs m (XA φ m) w cs vs
  | [], cs, h => by simp only [rdS, Option.some.injEq] at h; subst h; exact ⟨[], rfl, trivial⟩
  | (t, sh) :: r, cs, h => by
    simp only [rdS] at h
    split at h
    case h_2 => cases h
    rename_i x cs' hx hr
    obtain ⟨vs', h1, h2⟩ := rdS_ok hs hr
    have hv := hs.slot t _ hx (fun x hx => by cases hx)
    split at h
    · rename_i c
      simp only [Option.some.injEq] at h
      subst h
      exact ⟨_ :: vs', ⟨vs', rfl, h1⟩, hv, h2⟩
    · rename_i n ds
      obtain ⟨hn, h⟩ := cnd_some h
      simp only [Option.some.injEq] at h
      subst h
      obtain ⟨us, hu, hus⟩ := hv
      have hn := beq_eq hn
      rw [len'_eq] at hn
      exact ⟨us.toList ++ vs', ⟨us.toList, vs', by rw [hu], by rw [← hn]; exact hus.length.symm, rfl, h1⟩, by rw [app_eq]; exact All2.append hus h2⟩
    · cases h
theorem SlotVals.len : ∀ {l : List (Nat × Option Nat)} {vs : List Value}, SlotVals a l vs → vs.length = shLen l
  | [], vs, h => by cases h; rfl
  | (t, none) :: r, vs, h => by obtain ⟨vs', rfl, h1⟩ := h; simp [shLen, h1.len]
  | (t, some n) :: r, vs, h => by obtain ⟨ds, vs', _, h2, rfl, h1⟩ := h; simp [shLen, h1.len, h2]
def Cell.free (ns : List Nat) : Cell → Bool
  | .box _ _ => false | .velem _ _ _ _ => false | .clo _ _ => false | .aelem _ _ _ _ _ => false | .vref _ k => mem k ns | .lst _ tl _ => (match tl with | .no => true | _ => false) | _ => true
theorem CR.free {ns : List Nat} {m m' : Map} {X : Nat → Nat → Prop} {c : Cell} {v : Value} (hm : ∀ k ∈ ns, m' k = m k) (hf : c.free ns = true) (h : CR m X w c v) : CR m' X w c v := by
  cases c with
  | box k off => cases hf
  | velem t k i off => cases hf
  | clo f ks => cases hf
  | aelem k off e len i => cases hf
  | vref t k =>
    obtain ⟨b, p, h1, h2⟩ := h
    exact ⟨b, p, (hm k (mem_spec.1 hf)).trans h1, h2⟩
  | lst t tl l =>
    cases tl with
    | no => exact h
    | exact => cases hf
  | _ => exact h
theorem enc_free (ns : List Nat) : ∀ (t : Ty) (x : t.den), ∀ c ∈ enc t x, c.free ns = true := by
  intro t
  induction t with
  | pair a b iha ihb =>
    intro x c hc
    simp only [enc, app_eq, List.mem_append] at hc
    rcases hc with hc | hc
    · exact iha _ _ hc
    · exact ihb _ _ hc
  | unit => intro x c hc; cases hc
  | _ => intro x c hc; simp only [enc, List.mem_singleton] at hc; subst hc; rfl
theorem lookV_mem : ∀ {vs : List (Nat × Nat × Bool × Nat)} {i k T : Nat} {o : Bool}, lookV vs i = some (k, o, T) → k ∈ vnames vs
  | [], _, _, _, _, h => by cases h
  | (p, k', o', T') :: r, i, k, T, o, h => by
    simp only [lookV] at h
    by_cases hi : i = p
    · rw [cnd_beq_true hi] at h; cases h; simp [vnames]
    · rw [cnd_beq_false hi] at h; simp [vnames, lookV_mem h]
theorem vxC_free {ns : List Nat} {vs : List (Nat × Nat × Bool × Nat)} (hns : ∀ k ∈ vnames vs, k ∈ ns) : ∀ {cs : List Cell} {i : Nat}, (∀ c ∈ cs, c.free ns = true) → ∀ c ∈ vxC vs i cs, c.free ns = true
  | [], _, _, c, hc => by cases hc
  | c0 :: cs, i, hf, c, hc => by
    simp only [vxC, List.mem_cons] at hc
    rcases hc with hc | hc
    · subst hc
      split
      · rename_i k o T hl
        split
        · exact mem_spec.2 (hns _ (lookV_mem hl))
        · exact hf c0 (by simp)
      · exact hf c0 (by simp)
    · exact vxC_free hns (fun c hc => hf c (by simp [hc])) c hc
def freeTV (ns : List Nat) : TV → Prop
  | .v (.one c) => c.free ns = true | .v (.agg cs) => ∀ c ∈ cs, c.free ns = true | .tup _ => False
theorem All2.imp {α β : Type} {R S : α → β → Prop} {p : α → Prop} (h : ∀ a b, p a → R a b → S a b) : ∀ {as : List α} {bs : List β}, (∀ x ∈ as, p x) → All2 R as bs → All2 S as bs
  | [], [], _, _ => trivial
  | x :: _, _ :: _, hp, hh => ⟨h _ _ (hp x (by simp)) hh.1, All2.imp h (fun y hy => hp y (by simp [hy])) hh.2⟩
  | [], _ :: _, _, hh => hh.elim
  | _ :: _, [], _, hh => hh.elim
theorem VR.free {ns : List Nat} {m m' : Map} {X : Nat → Nat → Prop} {tv : TV} {v : Value} (hm : ∀ k ∈ ns, m' k = m k) (hf : freeTV ns tv) (h : VR m X w tv v) : VR m' X w tv v := by
  cases tv with
  | tup xs => cases hf
  | v s =>
    cases s with
    | one c => exact CR.free hm hf h
    | agg cs => obtain ⟨vs, rfl, h2⟩ := h; exact ⟨vs, rfl, h2.imp (p := fun c => c.free ns = true) (fun a b hp => CR.free hm hp) (show ∀ c ∈ cs, c.free ns = true from hf)⟩
theorem slotsOf_ok {ns : List Nat} {X : Nat → Nat → Prop} {rest : List Value} : ∀ {l : List (Nat × Option Nat)} {cs : List Cell} {vs : List Value} {u : Nat} {g : GS}, SlotVals a l vs → CRs m X w cs (vs ++ rest) → slotsOf l cs u = some g →
    g.tags = [] ∧ VR m X w g.tv (a.tmps.getD u undef) ∧ ((∀ c ∈ cs, c.free ns = true) → freeTV ns g.tv) ∧ u ∈ firsts l
  | [], cs, vs, u, g, _, _, h => by cases h
  | (t, none) :: r, [], vs, u, g, hv, hc, h => by
    obtain ⟨vs', rfl, h1⟩ := hv
    cases hc
  | (t, none) :: r, c :: cs, vs, u, g, hv, hc, h => by
    obtain ⟨vs', rfl, h1⟩ := hv
    simp only [slotsOf] at h
    by_cases hut : u = t
    · rw [cnd_beq_true hut] at h
      cases h
      subst hut
      exact ⟨rfl, hc.1, fun hf => hf c (by simp), by simp [firsts]⟩
    · rw [cnd_beq_false hut] at h
      obtain ⟨h2, h3, h4, h5⟩ := slotsOf_ok h1 hc.2 h
      exact ⟨h2, h3, fun hf => h4 fun c hc => hf c (by simp [hc]), by simp [firsts, h5]⟩
  | (t, some n) :: r, cs, vs, u, g, hv, hc, h => by
    obtain ⟨ds, vs', hu, hl, rfl, h1⟩ := hv
    have h3 := All2.take n hc
    have h4 := All2.drop n hc
    rw [List.append_assoc, show (ds ++ (vs' ++ rest)).take n = ds by rw [← hl]; simp] at h3
    rw [List.append_assoc, show (ds ++ (vs' ++ rest)).drop n = vs' ++ rest by rw [← hl]; simp] at h4
    simp only [slotsOf] at h
    by_cases hut : u = t
    · rw [cnd_beq_true hut] at h
      cases h
      subst hut
      exact ⟨rfl, by rw [hu]; exact ⟨_, rfl, by simpa [CRs] using h3⟩, fun hf c hc => hf c (List.mem_of_mem_take hc), by simp [firsts]⟩
    · rw [cnd_beq_false hut] at h
      obtain ⟨h2, h5, h6, h7⟩ := slotsOf_ok h1 h4 h
      exact ⟨h2, h5, fun hf => h6 fun c hc => hf c (List.mem_of_mem_drop hc), by simp [firsts, h7]⟩
theorem rdB_ok (hs : SatM φ ν m st a w) : ∀ {l : List (Nat × Nat)} {cs : List Cell}, rdB st l = some cs → ∃ vs, BoxVals m w l vs ∧ CRs m (XA φ m) w cs vs ∧ ∀ k ∈ firsts l, st.box k ≠ none
  | [], cs, h => by simp only [rdB, Option.some.injEq] at h; subst h; exact ⟨[], rfl, trivial, fun k hk => by cases hk⟩
  | (k, n) :: r, cs, h => by
    simp only [rdB] at h
    have main : ∀ ds cs' , (st.box k = some (.cells ds) ∨ st.box k = some (.ro ds)) → rdB st r = some cs' → cnd (Nat.beq (len' ds) n) (some (app ds cs')) none = some cs →
        ∃ vs, BoxVals m w ((k, n) :: r) vs ∧ CRs m (XA φ m) w cs vs ∧ ∀ j ∈ firsts ((k, n) :: r), st.box j ≠ none := by
      intro ds cs' hb hr h
      obtain ⟨vs', h1, h2, h3⟩ := rdB_ok hs hr
      obtain ⟨hn, h⟩ := cnd_some h
      simp only [Option.some.injEq] at h
      subst h
      have : ∃ b vs T, m k = some (b, 0) ∧ w.heap[b]? = some (.cells vs T (0, 0)) ∧ CRs m (XA φ m) w ds vs.toList := by
        rcases hb with hb | hb
        · exact hs.box k _ hb
        · exact hs.box k _ hb
      obtain ⟨b, us, T, hm, hh, hus⟩ := this
      have hn := beq_eq hn
      rw [len'_eq] at hn
      refine ⟨us.toList ++ vs', ⟨b, us, T, vs', hm, hh, by rw [← hn]; simpa using hus.length.symm, rfl, h1⟩, by rw [app_eq]; exact All2.append hus h2, fun j hj => ?_⟩
      simp only [firsts, List.mem_cons] at hj
      rcases hj with rfl | hj
      · rcases hb with hb | hb <;> (rw [hb]; simp)
      · exact h3 j hj
    split at h
    · rename_i ds cs' hb hr; exact main ds cs' (.inl hb) hr h
    · rename_i ds cs' hb hr; exact main ds cs' (.inr hb) hr h
    · cases h
theorem boxesOf_ok {ns : List Nat} {X : Nat → Nat → Prop} {mk : List Cell → Bx} {rest : List Value} : ∀ {l : List (Nat × Nat)} {cs : List Cell} {vs : List Value} {u : Nat} {bx : Bx}, BoxVals m w l vs → CRs m X w cs (vs ++ rest) → boxesOf mk l cs u = some bx →
    ∃ cs', bx = mk cs' ∧ (∃ b us T, m u = some (b, 0) ∧ w.heap[b]? = some (.cells us T (0, 0)) ∧ CRs m X w cs' us.toList) ∧ ((∀ c ∈ cs, c.free ns = true) → ∀ c ∈ cs', c.free ns = true) ∧ u ∈ firsts l
  | [], cs, vs, u, bx, _, _, h => by cases h
  | (k, n) :: r, cs, vs, u, bx, hv, hc, h => by
    obtain ⟨b, us, T, vs', hm, hh, hl, rfl, h1⟩ := hv
    have h3 := All2.take n hc
    have h4 := All2.drop n hc
    rw [List.append_assoc, show (us.toList ++ (vs' ++ rest)).take n = us.toList by rw [← hl]; simp] at h3
    rw [List.append_assoc, show (us.toList ++ (vs' ++ rest)).drop n = vs' ++ rest by rw [← hl]; simp] at h4
    simp only [boxesOf] at h
    by_cases hut : u = k
    · rw [cnd_beq_true hut] at h
      cases h
      subst hut
      exact ⟨_, rfl, ⟨b, us, T, hm, hh, h3⟩, fun hf c hc => hf c (List.mem_of_mem_take hc), by simp [firsts]⟩
    · rw [cnd_beq_false hut] at h
      obtain ⟨cs', h5, h6, h7, h8⟩ := boxesOf_ok h1 h4 h
      exact ⟨cs', h5, h6, fun hf => h7 fun c hc => hf c (List.mem_of_mem_drop hc), by simp [firsts, h8]⟩
theorem boxesOf_some {mk : List Cell → Bx} : ∀ {l : List (Nat × Nat)} {cs : List Cell} {u : Nat}, u ∈ firsts l → ∃ bx, boxesOf mk l cs u = some bx
  | [], _, _, h => by cases h
  | (k, n) :: r, cs, u, h => by
    simp only [boxesOf]
    by_cases hut : u = k
    · rw [cnd_beq_true hut]; exact ⟨_, rfl⟩
    · rw [cnd_beq_false hut]
      simp only [firsts, List.mem_cons] at h
      exact boxesOf_some (h.resolve_left hut)
theorem boxesOf_mem {mk : List Cell → Bx} : ∀ {l : List (Nat × Nat)} {cs : List Cell} {u : Nat} {bx : Bx}, boxesOf mk l cs u = some bx → u ∈ firsts l ∧ ∃ cs', bx = mk cs'
  | [], _, _, _, h => by cases h
  | (k, n) :: r, cs, u, bx, h => by
    simp only [boxesOf] at h
    by_cases hut : u = k
    · rw [cnd_beq_true hut] at h; cases h; exact ⟨by simp [firsts, hut], _, rfl⟩
    · rw [cnd_beq_false hut] at h
      obtain ⟨h1, h2⟩ := boxesOf_mem h
      exact ⟨by simp [firsts, h1], h2⟩
theorem ptrsOf_some : ∀ {l : List (Nat × Nat)} {u : Nat} {g : GS}, ptrsOf l u = some g → ∃ k, (u, k) ∈ l ∧ g = ⟨[], .v (.one (.box k 0))⟩
  | [], u, g, h => by cases h
  | (t, k) :: r, u, g, h => by
    simp only [ptrsOf] at h
    by_cases hut : u = t
    · rw [cnd_beq_true hut] at h; cases h; exact ⟨k, by simp [hut], rfl⟩
    · rw [cnd_beq_false hut] at h
      obtain ⟨k', h1, h2⟩ := ptrsOf_some h
      exact ⟨k', by simp [h1], h2⟩
theorem ptrsOf_in : ∀ {l : List (Nat × Nat)} {u k : Nat}, (u, k) ∈ l → ∃ g, ptrsOf l u = some g
  | [], u, k, h => by cases h
  | (t, j) :: r, u, k, h => by
    simp only [ptrsOf]
    by_cases hut : u = t
    · rw [cnd_beq_true hut]; exact ⟨_, rfl⟩
    · rw [cnd_beq_false hut]
      rcases List.mem_cons.1 h with h | h
      · cases h; exact absurd rfl hut
      · exact ptrsOf_in h
theorem chkP_spec {ds xs ids : List Nat} : ∀ {l : List (Nat × Nat)}, chkP st ds xs ids l = true → ∀ t k, (t, k) ∈ l → st.slot t = some ⟨[], .v (.one (.box k 0))⟩ ∧ t ∉ ds ∧ t ∉ xs ∧ k ∈ ids
  | [], _, t, k, h => by cases h
  | (t', k') :: r, hc, t, k, h => by
    simp only [chkP] at hc
    split at hc
    case h_2 => cases hc
    rename_i k2 off hsl
    obtain ⟨h1, h2⟩ := andd_true hc
    obtain ⟨h1a, h1b⟩ := andd_true h1
    obtain ⟨h2, h3⟩ := andd_true h2
    obtain ⟨h3, h4⟩ := andd_true h3
    obtain ⟨h4, h5⟩ := andd_true h4
    rcases List.mem_cons.1 h with h | h
    · cases h
      rw [beq_eq h1a, beq_eq h1b] at hsl
      exact ⟨hsl, fun hm => (by have := nott_true h2; rw [mem_spec.2 hm] at this; cases this), fun hm => (by have := nott_true h3; rw [mem_spec.2 hm] at this; cases this), mem_spec.1 h4⟩
    · exact chkP_spec h5 t k h
theorem firsts_mem {α : Type} : ∀ {l : List (Nat × α)} {t : Nat} {x : α}, (t, x) ∈ l → t ∈ firsts l
  | [], _, _, h => by cases h
  | (t', x') :: r, t, x, h => by
    rcases List.mem_cons.1 h with h | h
    · cases h; simp [firsts]
    · simp [firsts, firsts_mem h]
theorem seconds_mem : ∀ {l : List (Nat × Nat)} {k : Nat}, k ∈ seconds l → ∃ t, (t, k) ∈ l
  | [], _, h => by cases h
  | (t', k') :: r, k, h => by
    simp only [seconds, List.mem_cons] at h
    rcases h with rfl | h
    · exact ⟨t', by simp⟩
    · obtain ⟨t, ht⟩ := seconds_mem h; exact ⟨t, by simp [ht]⟩
theorem BoxVals.mem : ∀ {l : List (Nat × Nat)} {vs : List Value} {k : Nat}, BoxVals m w l vs → k ∈ firsts l → ∃ b, m k = some (b, 0)
  | [], _, _, _, h => by cases h
  | (k', n) :: r, vs, k, hv, h => by
    obtain ⟨b, us, T, vs', hm, _, _, _, h1⟩ := hv
    simp only [firsts, List.mem_cons] at h
    rcases h with rfl | h
    · exact ⟨b, hm⟩
    · exact BoxVals.mem h1 h
theorem BoxVals.re {m' : Map} : ∀ {l : List (Nat × Nat)} {vs : List Value}, (∀ k ∈ firsts l, m' k = m k) → BoxVals m w l vs → BoxVals m' w l vs
  | [], _, _, h => h
  | (k, n) :: r, vs, he, h => by
    obtain ⟨b, us, T, vs', hm, h1, h2, h3, h4⟩ := h
    exact ⟨b, us, T, vs', by rw [he k (by simp [firsts]), hm], h1, h2, h3, BoxVals.re (fun j hj => he j (by simp [firsts, hj])) h4⟩
theorem appO_spec {a b : Option (List Cell)} {c : List Cell} (h : appO a b = some c) : ∃ x y, a = some x ∧ b = some y ∧ c = x ++ y := by
  unfold appO at h
  split at h
  · rename_i x y; cases h; exact ⟨x, y, rfl, rfl, app_eq x y⟩
  · cases h
theorem orE_some {α : Type} {a b : Option α} {x : α} (h : orE a b = some x) : a = some x ∨ (a = none ∧ b = some x) := by
  cases a with
  | none => exact .inr ⟨rfl, h⟩
  | some y => exact .inl h
theorem lookV_inj : ∀ {vs : List (Nat × Nat × Bool × Nat)}, nodup (vnames vs) = true → ∀ {i j k T T' : Nat} {o o' : Bool}, lookV vs i = some (k, o, T) → lookV vs j = some (k, o', T') → i = j
  | [], _, i, j, k, T, T', o, o', h, _ => by cases h
  | (p, k', o1, T1) :: r, hn, i, j, k, T, T', o, o', h1, h2 => by
    obtain ⟨hn1, hn2⟩ := nodup_cons (x := k') (r := vnames r) hn
    simp only [lookV] at h1 h2
    by_cases hi : i = p
    · by_cases hj : j = p
      · rw [hi, hj]
      · rw [cnd_beq_true hi] at h1
        rw [cnd_beq_false hj] at h2
        cases h1
        exact absurd (lookV_mem h2) hn1
    · rw [cnd_beq_false hi] at h1
      by_cases hj : j = p
      · rw [cnd_beq_true hj] at h2
        cases h2
        exact absurd (lookV_mem h1) hn1
      · rw [cnd_beq_false hj] at h2
        exact lookV_inj hn2 h1 h2
structure VM (m : Map) (X : Nat → Nat → Prop) (w : World) (vs : List (Nat × Nat × Bool × Nat)) (i : Nat) (cs xc : List Cell) (us : List Value) (vm : Map) : Prop where
  from_ : ∀ k r, vm k = some r → ∃ j o T, i ≤ j ∧ lookV vs j = some (k, o, T)
  dom : ∀ k, vxB vs i (xc.map Cell.no) k = none → vm k = none
  box : ∀ k bx, vxB vs i (xc.map Cell.no) k = some bx → (∃ o T t l, bx = .vec o T t l) ∧ ∀ m' : Map, m' k = vm k → BoxOk m' X w k bx
  live : ∀ k b p, vm k = some (b, p) → p % 2 = 0 → ∃ k0 ∈ keysX vs i cs, m k0 = some (b, p) ∧ 0 < p
  inj : ∀ k k' b p p', vm k = some (b, p) → vm k' = some (b, p') → p % 2 = 0 → p' % 2 = 0 → k = k'
  cells : ∀ m' : Map, (∀ k, vm k ≠ none → m' k = vm k) → CRs m' X w (vxC vs i (xc.map Cell.no)) us
theorem CR.pl_no {m m' : Map} {X : Nat → Nat → Prop} {c : Cell} {v : Value} (hp : c.pl = true) (h : CR m X w c v) : CR m' X w c.no v := by
  cases c with
  | lst e tl l => exact ⟨h.1, trivial⟩
  | int k n => exact h
  | bool b => exact h
  | flt k n => exact h
  | str s => exact h
  | fn f => exact h
  | _ => cases hp
theorem unvX_ok (hs : SatM φ ν m st a w) {vs : List (Nat × Nat × Bool × Nat)} (hnd : nodup (vnames vs) = true) : ∀ {cs xc : List Cell} {us : List Value} {i : Nat}, unvX st vs i cs = some xc → (∀ c ∈ xc, c.pl = true) → nodup (keysX vs i cs) = true →
    CRs m (XA φ m) w cs us → (∃ vm, VM m (XA φ m) w vs i cs xc us vm) ∧ CRs m (Xc φ m (keysX vs i cs)) w xc us
  | [], xc, us, i, h, hpl, hk, hc => by
    simp only [unvX, Option.some.injEq] at h
    subst h
    match us, hc with
    | [], _ =>
      exact ⟨⟨fun _ => none, ⟨(fun k r h => by cases h), (fun _ _ => rfl), (fun k bx h => by cases h), (fun k b p h => by cases h), (fun k k' b p p' h => by cases h), (fun _ _ => trivial)⟩⟩, trivial⟩
  | c :: cs, xc, [], i, h, hpl, hk, hc => hc.elim
  | c :: cs, xc, u :: us, i, h, hpl, hk, hc => by
    simp only [unvX] at h
    split at h
    case h_1 => cases h
    rename_i r' hr'
    -- the rest
    have rest : ∀ {c' : Cell}, xc = c' :: r' → nodup (keysX vs (Nat.succ i) cs) = true → (∃ vm, VM m (XA φ m) w vs (Nat.succ i) cs r' us vm) ∧ CRs m (Xc φ m (keysX vs (Nat.succ i) cs)) w r' us := fun hx hk' =>
      unvX_ok hs hnd hr' (fun c hc => hpl c (by rw [hx]; simp [hc])) hk' hc.2
    split at h
    · rename_i key o T hlook
      -- a variable that is a row
      have hadd : ∀ {e : Ty} {l : List e.den} {b p : Nat} (c' : Cell), c'.no = .lst e .no l → xc = c' :: r' → (hk' : nodup (keysX vs (Nat.succ i) cs) = true) →
          (∀ m' : Map, m' key = some (b, p) → BoxOk m' (XA φ m) w key (.vec o T e l)) → (∀ m' : Map, m' key = some (b, p) → CR m' (XA φ m) w (.vref e key) u) →
          (p % 2 = 0 → ∃ k0, keysX vs i (c :: cs) = k0 :: keysX vs (Nat.succ i) cs ∧ m k0 = some (b, p) ∧ 0 < p) → (∀ k0 ∈ keysX vs (Nat.succ i) cs, k0 ∈ keysX vs i (c :: cs)) → ∃ vm, VM m (XA φ m) w vs i (c :: cs) xc (u :: us) vm := by
        intro e l b p c' hno hx hk' hbx hcr hlv hsub
        obtain ⟨⟨vm, hv⟩, _⟩ := rest hx hk'
        have hnot : vm key = none := by
          cases hq : vm key with
          | none => rfl
          | some r =>
            obtain ⟨j, o', T', hj, hl⟩ := hv.from_ key r hq
            have := lookV_inj hnd hlook hl
            omega
        refine ⟨fun k => if k = key then some (b, p) else vm k, ?_⟩
        have hne : ∀ k, vm k ≠ none → k ≠ key := fun k hk e => hk (e ▸ hnot)
        have hB : ∀ k, vxB vs i (xc.map Cell.no) k = if k = key then some (.vec o T e l) else vxB vs (Nat.succ i) (r'.map Cell.no) k := by
          intro k
          rw [hx]
          simp only [List.map_cons, vxB, hlook, hno]
          by_cases hkk : k = key
          · rw [cnd_beq_true hkk, if_pos hkk]
          · rw [cnd_beq_false hkk, if_neg hkk]
        refine ⟨fun k r hk => ?_, fun k hk => ?_, fun k bx hk => ?_, fun k b' p' hk hp => ?_, fun k k' b' p1 p2 h1 h2 h3 h4 => ?_, fun m' hm' => ?_⟩
        · by_cases hkk : k = key
          · exact ⟨i, o, T, Nat.le_refl _, hkk ▸ hlook⟩
          · simp only [if_neg hkk] at hk
            obtain ⟨j, o', T', hj, hl⟩ := hv.from_ k r hk
            exact ⟨j, o', T', by omega, hl⟩
        · rw [hB] at hk
          by_cases hkk : k = key
          · rw [if_pos hkk] at hk; cases hk
          · rw [if_neg hkk] at hk; simp only [if_neg hkk]; exact hv.dom k hk
        · rw [hB] at hk
          by_cases hkk : k = key
          · rw [if_pos hkk] at hk
            cases hk
            subst hkk
            exact ⟨⟨_, _, _, _, rfl⟩, fun m' hm' => hbx m' (by simpa using hm')⟩
          · rw [if_neg hkk] at hk
            obtain ⟨h1, h2⟩ := hv.box k bx hk
            exact ⟨h1, fun m' hm' => h2 m' (by simpa [hkk] using hm')⟩
        · by_cases hkk : k = key
          · simp only [if_pos hkk, Option.some.injEq, Prod.mk.injEq] at hk
            obtain ⟨rfl, rfl⟩ := hk
            obtain ⟨k0, h1, h2⟩ := hlv hp
            exact ⟨k0, by rw [h1]; simp, h2⟩
          · simp only [if_neg hkk] at hk
            obtain ⟨k0, h1, h2⟩ := hv.live k b' p' hk hp
            exact ⟨k0, hsub k0 h1, h2⟩
        · by_cases hkk : k = key <;> by_cases hkk' : k' = key
          · rw [hkk, hkk']
          · simp only [if_pos hkk, Option.some.injEq, Prod.mk.injEq] at h1
            obtain ⟨rfl, rfl⟩ := h1
            simp only [if_neg hkk'] at h2
            obtain ⟨k0, h5, h6, _⟩ := hlv h3
            obtain ⟨k1, h7, h8, _⟩ := hv.live k' _ p2 h2 h4
            have := hs.inj _ _ _ _ _ h6 h8 h3 h4
            subst this
            rw [h5] at hk
            exact absurd h7 (nodup_cons hk).1
          · simp only [if_pos hkk', Option.some.injEq, Prod.mk.injEq] at h2
            obtain ⟨rfl, rfl⟩ := h2
            simp only [if_neg hkk] at h1
            obtain ⟨k0, h5, h6, _⟩ := hlv h4
            obtain ⟨k1, h7, h8, _⟩ := hv.live k _ p1 h1 h3
            have := hs.inj _ _ _ _ _ h6 h8 h4 h3
            subst this
            rw [h5] at hk
            exact absurd h7 (nodup_cons hk).1
          · simp only [if_neg hkk] at h1
            simp only [if_neg hkk'] at h2
            exact hv.inj _ _ _ _ _ h1 h2 h3 h4
        · rw [hx]
          simp only [List.map_cons, vxC, hlook, hno]
          refine ⟨hcr m' ?_, hv.cells m' fun k hk => ?_⟩
          · have := hm' key (by simp)
            simpa using this
          · have := hm' k (by simp [hne k hk, hk])
            simpa [hne k hk] using this
      split at h
      · rename_i e k0 
        split at h
        case h_2 => cases h
        rename_i o' T' e' l hbx
        split at h
        case h_2 => cases h
        rename_i l' hl'
        obtain ⟨hcc, h⟩ := cnd_some h
        obtain ⟨hcT, hco⟩ := andd_true hcc
        have hcT := beq_eq hcT
        cases h
        obtain ⟨e0, hl2⟩ := castL_eq hl'
        subst e0
        simp only at hl2
        subst hl2
        subst hcT
        have hkeys : keysX vs i (.vref e' k0 :: cs) = k0 :: keysX vs (Nat.succ i) cs := by simp only [keysX, hlook]
        have hk' : nodup (keysX vs (Nat.succ i) cs) = true := by rw [hkeys] at hk; exact (nodup_cons hk).2
        obtain ⟨b, p, hm, hp, hval⟩ := hc.1
        obtain ⟨b', p', h1, h2⟩ := hs.box k0 _ hbx
        rw [hm] at h1
        cases h1
        refine ⟨hadd (b := b) (p := p) _ rfl rfl hk' (fun m' hm' => ⟨b, p, hm', ?_⟩) (fun m' hm' => ⟨b, p, hm', hp, hval⟩) (fun _ => ⟨k0, hkeys, hm, hp⟩) (fun k hk => by rw [hkeys]; simp [hk]), ?_, ?_⟩
        · rcases h2 with h2 | h2 | ⟨h3, h4⟩
          · exact .inl h2
          · exact .inr (.inl h2)
          · refine .inr (.inr ⟨?_, h4⟩)
            subst h3
            rcases orr_true hco with h5 | h5
            · exact nott_true h5
            · cases h5
        · rw [hkeys]
          exact unvC_ok hs (fr := false) (c := .vref e' k0) (by simp only [unvC, hbx, cnd, hl']) hc.1 (fun _ k hk => by simp [vksL] at hk; simp [hk])
        · rw [hkeys]
          exact ((rest rfl hk').2).mono (CR.mono keeps_same (fun b q _ hx => ⟨hx.1, fun k hk => hx.2 k (by simp [hk])⟩) (fun _ _ _ h => h))
      · rename_i e l
        obtain ⟨hcc, h⟩ := cnd_some h
        cases h
        have hkeys : keysX vs i (.lst e .exact l :: cs) = keysX vs (Nat.succ i) cs := by simp only [keysX, hlook]
        have hk' : nodup (keysX vs (Nat.succ i) cs) = true := by rw [hkeys] at hk; exact hk
        refine ⟨?_, ⟨hc.1.1.mono keeps_same Xc.less (TR.mono keeps_same Xc.less e), trivial⟩, by rw [hkeys]; exact (rest rfl hk').2⟩
        rcases hc.1.2 with ⟨rfl, hu⟩ | ⟨hne, b, T', hu, hsh⟩
        · exact hadd (b := 0) (p := 1) _ rfl rfl hk' (fun m' hm' => ⟨0, 1, hm', .inl ⟨rfl, rfl⟩⟩) (fun m' hm' => ⟨0, 1, hm', by omega, .inl ⟨rfl, hu⟩⟩) (fun h => by omega) (fun k hk => by rw [hkeys]; exact hk)
        · have ho : o = false := by
            rcases orr_true hcc with h5 | h5
            · exact nott_true h5
            · cases l with | nil => exact absurd rfl hne | cons => cases h5
          have hrows : RowsOk w (XA φ m) e.n (TR w (XA φ m) e) l b 0 ∧ l.length ≤ maxLen := by
            rcases hc.1.1 with ⟨h4, _⟩ | ⟨ad, cap, h4, h6, h7, _, h5⟩
            · exact absurd h4 hne
            · rw [hu] at h4; cases h4; exact ⟨h5, by omega⟩
          exact hadd (b := b) (p := 2 * l.length + 3) _ rfl rfl hk' (fun m' hm' => ⟨b, _, hm', .inr (.inr ⟨ho, rfl, hrows.1, T', hsh⟩)⟩)
            (fun m' hm' => ⟨b, _, hm', by omega, .inr ⟨by omega, l.length, T', by rw [vlen_dead]; exact hu, hsh, by rw [vlen_dead]; exact Nat.le_refl _, hrows.2⟩⟩) (fun h => by omega) (fun k hk => by rw [hkeys]; exact hk)
      · cases h
    · rename_i hlook
      -- another variable
      split at h
      case h_2 => cases h
      rename_i c' hc'
      cases h
      have hkeys : keysX vs i (c :: cs) = keysX vs (Nat.succ i) cs := by simp only [keysX, hlook]
      have hk' : nodup (keysX vs (Nat.succ i) cs) = true := by rw [hkeys] at hk; exact hk
      obtain ⟨⟨vm, hv⟩, hrc⟩ := rest rfl hk'
      have hcc := unvC_ok hs hc' hc.1 (ks := []) (fun h => by cases h)
      have hX : Xc φ m [] = XA φ m := by funext b q; simp [Xc]
      refine ⟨⟨vm, ⟨fun k r hk => ?_, fun k hk => ?_, fun k bx hk => ?_, fun k b p hk hp => ?_, hv.inj, fun m' hm' => ?_⟩⟩, ?_, by rw [hkeys]; exact hrc⟩
      · obtain ⟨j, o', T', hj, hl⟩ := hv.from_ k r hk
        exact ⟨j, o', T', by omega, hl⟩
      · exact hv.dom k (by simpa only [List.map_cons, vxB, hlook] using hk)
      · exact hv.box k bx (by simpa only [List.map_cons, vxB, hlook] using hk)
      · rw [hkeys]; exact hv.live k b p hk hp
      · simp only [List.map_cons, vxC, hlook]
        rw [hX] at hcc
        exact ⟨CR.pl_no (hpl c' (by simp)) hcc, hv.cells m' hm'⟩
      · exact CR.mono keeps_same (fun b q _ hx => ⟨hx.1, fun k hk => by cases hk⟩) (fun _ _ _ h => h) _ _ hcc
theorem vxB_name {vs : List (Nat × Nat × Bool × Nat)} : ∀ {cs : List Cell} {i k : Nat} {bx : Bx}, vxB vs i cs k = some bx → k ∈ vnames vs ∧ ∃ o T t l, bx = .vec o T t l
  | [], _, _, _, h => by cases h
  | c :: cs, i, k, bx, h => by
    simp only [vxB] at h
    split at h
    · rename_i k' o T hl
      split at h
      · rename_i e tl l
        by_cases hkk : k = k'
        · rw [cnd_beq_true hkk] at h; cases h; exact ⟨hkk ▸ lookV_mem hl, _, _, _, _, rfl⟩
        · rw [cnd_beq_false hkk] at h; exact vxB_name h
      · exact vxB_name h
    · exact vxB_name h
end
end Go.Proofs.Ytbnihoioblmgkaa.Sy
end

section
/- The symbolic evaluator is sound: code and functions (own work). -/
namespace Go.Proofs.Ytbnihoioblmgkaa.Sy
open Go Go.RowKit
set_option linter.unusedVariables false
set_option linter.unusedSimpArgs false
section
variable {φ : Fr} {ν ν' : Nat → Bool} {m : Map} {st : ASt} {a : Act} {w w' : World} {own : List (Nat × Bool)} {W : List Nat} {P : Program} {C : Ctx} {o : Oper} {e : Eff}
  {K : Act → World → Prop} {Q : Exit → Act → World → Prop}
theorem keeps_id (X : Nat → Nat → Prop) (w : World) : Keeps X w w := ⟨Nat.le_refl _, fun _ _ _ _ => rfl, fun _ _ => rfl, fun _ _ _ => rfl⟩
theorem SatM.frz (h : SatM φ ν m st a w) (k : Nat) : Sat φ ν (frzK k st) a w := by
  have same : toFrz (st.box k) = st.box k → Sat φ ν (frzK k st) a w := by
    intro hs
    have : frzK k st = st := by
      obtain ⟨sl, bx⟩ := st
      unfold frzK
      congr 1
      funext u
      by_cases hu : u = k
      · rw [cnd_beq_true hu, hs, hu]
      · rw [cnd_beq_false hu]
    rw [this]; exact ⟨m, h⟩
  cases hk : st.box k with
  | none => exact same (by rw [hk]; rfl)
  | some bx =>
    cases bx with
    | vec o T t l =>
      have hst : frzK k st = { slot := st.slot, box := fun u => if u = k then some (.frz t l) else st.box u } := by
        unfold frzK
        congr 1
        funext u
        by_cases hu : u = k
        · rw [cnd_beq_true hu, if_pos hu, hk]; rfl
        · rw [cnd_beq_false hu, if_neg hu]
      rw [hst]
      refine h.dead hk (fun m' h1 h2 h3 h4 h5 => ?_) (fun b hb => ?_)
      · obtain ⟨b, p, hm, hv⟩ := h.box k _ hk
        rcases hv with ⟨rfl, rfl⟩ | ⟨rfl, hv⟩ | ⟨_, rfl, hv, _⟩
        · exact ⟨b, 1, h2 b 1 hm rfl, .inl ⟨rfl, rfl⟩⟩
        · refine ⟨b, _, h1 b _ hm (by omega) (by omega), .inr ⟨rfl, hv.rows.ok (fun x vs h => h.mono (keeps_id _ _) h4 _ _ _) fun q _ _ => ?_⟩⟩
          rcases h5 b _ hm (by omega) (by omega) q with h6 | h6
          · exact h6
          · exact absurd (h.own k _ b _ hk rfl hm (by omega)) h6
        · exact ⟨b, _, h2 b _ hm (by omega), .inr ⟨rfl, hv.mono (keeps_id _ _) h4 (TR.mono (keeps_id _ _) h4 t)⟩⟩
      · obtain ⟨b', p, hm, hv⟩ := h.box k _ hk
        rw [hb] at hm
        cases hm
        rcases hv with ⟨_, hv⟩ | ⟨hv, _⟩ | ⟨_, hv, _⟩ <;> omega
    | _ => exact same (by rw [hk]; rfl)
theorem Sat.frzAll : ∀ {ks : List Nat} {st : ASt}, Sat φ ν st a w → Sat φ ν (frzAll ks st) a w
  | [], _, h => h
  | k :: r, st, ⟨m, h⟩ => Sat.frzAll (ks := r) (h.frz k)
theorem frzAll_slot : ∀ {ks : List Nat} {st : ASt}, (frzAll ks st).slot = st.slot
  | [], _ => rfl
  | k :: r, st => by
    show (Sy.frzAll r (frzK k st)).slot = st.slot
    rw [frzAll_slot]; rfl
def Wr (T : ASt) (m' : Map) (b : Nat) : Prop := ∃ k bx p, T.box k = some bx ∧ bx.isRo = false ∧ m' k = some (b, p) ∧ p % 2 = 0
def inner (φ : Fr) (m m' : Map) (T : ASt) (body : Code) (a : Act) (w : World) : Fr where
  n := φ.n
  w0 := w
  a0 := a
  B := Wr T m'
  D := fun t => mem t (dsts body)
  X0 := fun b q => XA φ m b q ∧ ¬ Wr T m' b
  n0 := φ.n0
  base := φ.base
  gl := φ.gl
structure View (φ : Fr) (m : Map) (a : Act) (w : World) (m' : Map) (T : ASt) : Prop where
  slot : ∀ t g, T.slot t = some g → g.tags = [] ∧ VR m' (XA φ m) w g.tv (a.tmps.getD t undef)
  box : ∀ k bx, T.box k = some bx → BoxOk m' (XA φ m) w k bx
  dom : ∀ k, T.box k = none → m' k = none
  live : ∀ k b p, m' k = some (b, p) → p % 2 = 0 → ∃ k0, m k0 = some (b, p)
  inj : ∀ k k' b p p', m' k = some (b, p) → m' k' = some (b, p') → p % 2 = 0 → p' % 2 = 0 → k = k'
  own : ∀ k bx b p, T.box k = some bx → bx.isRo = false → m' k = some (b, p) → p % 2 = 0 → φ.B b ∨ φ.w0.heap.size ≤ b
theorem View.sat {m' : Map} {T : ASt} (hv : View φ m a w m' T) (hs : SatM φ ν m st a w) : SatM φ ν0 m' T a w := by
  have hnm : NoMore w (XA φ m) (XA φ m') := by
    rintro b q _ (h | ⟨k, p, h1, h2⟩)
    · exact .inl h
    · obtain ⟨k0, h3⟩ := hv.live _ _ _ h1 h2; exact .inr ⟨k0, p, h3, h2⟩
  exact {
    tmps := hs.tmps
    defers := hs.defers
    slot := fun t g hg _ => (hv.slot t g hg).2.mono (keeps_id _ _) hnm (fun _ _ _ h => h) _ _
    skip := fun t g hg ht => absurd (by rw [(hv.slot t g hg).1]; intro x hx; cases hx) ht
    box := fun k bx hk => (hv.box k bx hk).mle (keeps_id _ _) hnm (MLe.refl _) fun b p h _ => ⟨h, rfl⟩
    inj := hv.inj
    low := fun k b p h he => by obtain ⟨k0, h3⟩ := hv.live _ _ _ h he; exact hs.low _ _ _ h3 he
    dom := hv.dom
    own := hv.own
    vn := fun k b p h he hp => by obtain ⟨k0, h3⟩ := hv.live _ _ _ h he; exact hs.vn _ _ _ h3 he hp
    ngl := fun k b p h he => by obtain ⟨k0, h3⟩ := hv.live _ _ _ h he; exact hs.ngl _ _ _ h3 he
    n0 := hs.n0
    glob := hs.glob
    old := hs.old
    keep := hs.keep
    keepS := hs.keepS
    x0 := hs.x0
    keepT := hs.keepT }
theorem View.XA {m' : Map} {T : ASt} {body : Code} (hv : View φ m a w m' T) : Sy.XA (inner φ m m' T body a w) m' = Sy.XA φ m := by
  funext b q
  refine propext ⟨?_, fun h => ?_⟩
  · rintro (h | ⟨k, p, h1, h2⟩)
    · exact h.1
    · obtain ⟨k0, h3⟩ := hv.live _ _ _ h1 h2; exact .inr ⟨k0, p, h3, h2⟩
  · by_cases hB : Wr T m' b
    · obtain ⟨k, bx, p, h1, h2, h3, h4⟩ := hB; exact .inr ⟨k, p, h3, h4⟩
    · exact .inl ⟨h, hB⟩
theorem View.sub {m' : Map} {T : ASt} (hv : View φ m a w m' T) {b : Nat} (h : Wr T m' b) (q : Nat) : Sy.XA φ m b q := by
  obtain ⟨k, bx, p, h1, h2, h3, h4⟩ := h
  obtain ⟨k0, h5⟩ := hv.live _ _ _ h3 h4
  exact .inr ⟨k0, p, h5, h4⟩
theorem View.into {m' : Map} {T : ASt} {body : Code} (hv : View φ m a w m' T) (hs : SatM φ ν m st a w) : SatM (inner φ m m' T body a w) ν0 m' T a w where
  tmps := hs.tmps
  defers := rfl
  slot := fun t g hg _ => by rw [hv.XA]; exact (hv.slot t g hg).2
  skip := fun t g hg ht => absurd (by rw [(hv.slot t g hg).1]; intro x hx; cases hx) ht
  box := fun k bx hk => by rw [hv.XA]; exact hv.box k bx hk
  inj := hv.inj
  low := fun k b p h he => by obtain ⟨k0, h3⟩ := hv.live _ _ _ h he; exact hs.low _ _ _ h3 he
  dom := hv.dom
  own := fun k bx b p h1 h2 h3 h4 => .inl ⟨k, bx, p, h1, h2, h3, h4⟩
  vn := fun k b p h he hp => by obtain ⟨k0, h3⟩ := hv.live _ _ _ h he; exact hs.vn _ _ _ h3 he hp
  ngl := fun k b p h he => by obtain ⟨k0, h3⟩ := hv.live _ _ _ h he; exact hs.ngl _ _ _ h3 he
  n0 := Nat.le_trans hs.n0 hs.old.2.2.2
  glob := hs.glob
  old := ⟨rfl, rfl, rfl, Nat.le_refl _⟩
  keep := fun b _ _ => rfl
  keepS := fun b _ => ⟨rfl, fun _ => rfl⟩
  x0 := fun b q h => ⟨live_lt hs h.1, h.2, XA_gl hs h.1⟩
  keepT := fun t _ => rfl
def restr (m : Map) (ids : List Nat) (vm : Map) : Map := fun k => if k ∈ ids then m k else vm k
theorem chkN_spec {ρ₀ : Type} {s : LS ρ₀} (h : chkN s = true) : nodup (vnames s.vecs) = true ∧ ∀ k ∈ vnames s.vecs, k ∉ firsts s.xb ++ firsts s.kb := by
  obtain ⟨h1, h2⟩ := andd_true h
  refine ⟨h1, fun k hk hin => ?_⟩
  have h3 := nott_true (allB_spec h2 k hk)
  rw [app_eq] at h3
  rw [mem_spec.2 hin] at h3
  cases h3
theorem tmpl_view {ρ₀ : Type} {s : LS ρ₀} (hs : SatM φ ν m st a w) {kc0 kc xc0 xc : List Cell} {kv : s.K.den} {xv : s.X.den}
    (hk : appO (rdS st s.ks) (rdB st s.kb) = some kc0) (hx : appO (rdS st s.xs) (rdW st s.xb) = some xc0) {ds : List Nat} (hc1 : chkP st ds (firsts s.xs) (app (firsts s.xb) (firsts s.kb)) s.ptrs = true) (hN : chkN s = true)
    (hku : unvL true st kc0 = some kc) (hxu : unvX st s.vecs 0 xc0 = some xc) (hnd : nodup (keysX s.vecs 0 xc0) = true) (hkv : dec s.K kc = some kv) (hxv : dec s.X xc = some xv) :
    Fit s.K kv ∧ Fit s.X xv ∧ ∃ m', View φ m a w m' (tmpl s (enc s.K kv) (enc s.X xv)) ∧ (∀ k ∈ firsts s.xb, m' k = m k) ∧
      (∀ k ∈ vnames s.vecs, ∀ b p, m' k = some (b, p) → p % 2 = 0 → ∃ k0 ∈ keysX s.vecs 0 xc0, m k0 = some (b, p) ∧ 0 < p) ∧ (∀ k ∈ firsts s.xb, ∃ ds, st.box k = some (.cells ds)) := by
  have hP := chkP_spec hc1
  obtain ⟨hN1, hN2⟩ := chkN_spec hN
  obtain ⟨kc1, kc2, hk1, hk2, rfl⟩ := appO_spec hk
  obtain ⟨xc1, xc2, hx1, hx2, rfl⟩ := appO_spec hx
  obtain ⟨kvs1, hks1, hkr1⟩ := rdS_ok hs hk1
  obtain ⟨kvs2, hks2, hkr2, hkn⟩ := rdB_ok hs hk2
  obtain ⟨xvs1, hxs1, hxr1⟩ := rdS_ok hs hx1
  obtain ⟨xvs2, hxs2, hxr2, hxn⟩ := rdW_ok hs hx2
  have hX0 : Xc φ m [] = XA φ m := by funext b q; simp [Xc]
  have hkr := unvL_ok hs hku (All2.append hkr1 hkr2) (ks := []) (fun h => by cases h)
  rw [hX0] at hkr
  have hkt := dec_ok hkv hkr
  obtain ⟨henc, hpl⟩ := enc_dec hxv
  obtain ⟨⟨vm, hvm⟩, hxr⟩ := unvX_ok hs hN1 hxu hpl hnd (All2.append hxr1 hxr2)
  have hxt := dec_ok hxv hxr
  let ids := firsts s.xb ++ firsts s.kb
  let m' := restr m ids vm
  have hin : ∀ k, k ∈ ids → m' k = m k := fun k hk => by show (if k ∈ ids then m k else vm k) = _; rw [if_pos hk]
  have hout : ∀ k, k ∉ ids → m' k = vm k := fun k hk => by show (if k ∈ ids then m k else vm k) = _; rw [if_neg hk]
  have hvn : ∀ k, vm k ≠ none → k ∈ vnames s.vecs := fun k hk => by
    cases hq : vm k with
    | none => exact absurd hq hk
    | some r => obtain ⟨j, o, T, _, h⟩ := hvm.from_ k r hq; exact lookV_mem h
  have hvm' : ∀ k, vm k ≠ none → m' k = vm k := fun k hk => hout k (hN2 k (hvn k hk))
  refine ⟨fit_of hkt, fit_of hxt, m', ?_, fun k hk => hin k (List.mem_append.2 (.inl hk)), fun k hk b p h1 h2 => ?_, hxn⟩
  · have hke : CRs m' (XA φ m) w (enc s.K kv) (kvs1 ++ kvs2) := enc_ok hkt
    have hxe : CRs m' (XA φ m) w (vxC s.vecs 0 (enc s.X xv)) (xvs1 ++ xvs2) := by rw [henc]; exact hvm.cells m' hvm'
    have hkb : BoxVals m' w s.kb kvs2 := hks2.re fun k hk => hin k (List.mem_append.2 (.inr hk))
    have hxb : BoxVals m' w s.xb xvs2 := hxs2.re fun k hk => hin k (List.mem_append.2 (.inl hk))
    have hkd : CRs m' (XA φ m) w ((enc s.K kv).drop (shLen s.ks)) (kvs2 ++ []) := by
      have := All2.drop (shLen s.ks) hke
      rw [← hks1.len, List.drop_left] at this
      rw [← hks1.len]
      simpa [CRs] using this
    have hxd : CRs m' (XA φ m) w ((vxC s.vecs 0 (enc s.X xv)).drop (shLen s.xs)) (xvs2 ++ []) := by
      have := All2.drop (shLen s.xs) hxe
      rw [← hxs1.len, List.drop_left] at this
      rw [← hxs1.len]
      simpa [CRs] using this
    have hbox : ∀ k bx, (tmpl s (enc s.K kv) (enc s.X xv)).box k = some bx → (k ∈ ids ∧ ∃ cs', (bx = .cells cs' ∨ bx = .ro cs') ∧ (∃ b us T, m' k = some (b, 0) ∧ w.heap[b]? = some (.cells us T (0, 0)) ∧ CRs m' (XA φ m) w cs' us.toList) ∧
        (bx.isRo = false → k ∈ firsts s.xb)) ∨ (k ∉ ids ∧ vxB s.vecs 0 (enc s.X xv) k = some bx) := by
      intro k bx h
      rcases orE_some h with h | ⟨_, h⟩
      · obtain ⟨cs', h1, h2, _, h4⟩ := boxesOf_ok (ns := []) hxb hxd h
        exact .inl ⟨List.mem_append.2 (.inl h4), cs', .inl h1, h2, fun _ => h4⟩
      · rcases orE_some h with h | ⟨_, h⟩
        · obtain ⟨cs', h1, h2, _, h4⟩ := boxesOf_ok (ns := []) hkb hkd h
          exact .inl ⟨List.mem_append.2 (.inr h4), cs', .inr h1, h2, fun hh => by rw [h1] at hh; cases hh⟩
        · exact .inr ⟨hN2 k (vxB_name h).1, h⟩
    exact {
      slot := by
        intro t g h
        rcases orE_some h with h | ⟨_, h⟩
        · obtain ⟨k, h1, rfl⟩ := ptrsOf_some h
          obtain ⟨h2, h3, h4, h5⟩ := hP t k h1
          have h6 := hs.slot t _ h2 (fun x hx => by cases hx)
          obtain ⟨b, h7, h8⟩ := h6
          rw [app_eq] at h5
          exact ⟨rfl, b, (hin k h5).trans h7, h8⟩
        · rcases orE_some h with h | ⟨_, h⟩
          · obtain ⟨h1, h2, _⟩ := slotsOf_ok (ns := []) hxs1 hxe h; exact ⟨h1, h2⟩
          · obtain ⟨h1, h2, _⟩ := slotsOf_ok (ns := []) hks1 hke h; exact ⟨h1, h2⟩
      box := by
        intro k bx hk
        rcases hbox k bx hk with ⟨_, cs', h1, h2, _⟩ | ⟨h1, h2⟩
        · rcases h1 with rfl | rfl
          · exact h2
          · exact h2
        · rw [henc] at h2
          exact (hvm.box k bx h2).2 m' (hout k h1)
      dom := by
        intro k hk
        by_cases hkin : k ∈ ids
        · exfalso
          rcases List.mem_append.1 hkin with h | h
          · obtain ⟨bx, hb⟩ := boxesOf_some (mk := .cells) (cs := (vxC s.vecs 0 (enc s.X xv)).drop (shLen s.xs)) h
            have : (tmpl s (enc s.K kv) (enc s.X xv)).box k = some bx := by show orE _ _ = _; rw [hb]; rfl
            rw [this] at hk; cases hk
          · obtain ⟨bx, hb⟩ := boxesOf_some (mk := .ro) (cs := (enc s.K kv).drop (shLen s.ks)) h
            have h2 : orE (boxesOf .cells s.xb ((vxC s.vecs 0 (enc s.X xv)).drop (shLen s.xs)) k) (orE (boxesOf .ro s.kb ((enc s.K kv).drop (shLen s.ks)) k) (vxB s.vecs 0 (enc s.X xv) k)) = none := hk
            rw [hb] at h2
            cases hq : boxesOf .cells s.xb ((vxC s.vecs 0 (enc s.X xv)).drop (shLen s.xs)) k with
            | none => rw [hq] at h2; cases h2
            | some y => rw [hq] at h2; cases h2
        · rw [hout k hkin]
          refine hvm.dom k ?_
          rw [← henc]
          cases hq : vxB s.vecs 0 (enc s.X xv) k with
          | none => rfl
          | some bx =>
            have h2 : orE (boxesOf .cells s.xb ((vxC s.vecs 0 (enc s.X xv)).drop (shLen s.xs)) k) (orE (boxesOf .ro s.kb ((enc s.K kv).drop (shLen s.ks)) k) (vxB s.vecs 0 (enc s.X xv) k)) = none := hk
            rw [hq] at h2
            cases hq1 : boxesOf .cells s.xb ((vxC s.vecs 0 (enc s.X xv)).drop (shLen s.xs)) k with
            | some y => rw [hq1] at h2; cases h2
            | none =>
              rw [hq1] at h2
              cases hq2 : boxesOf .ro s.kb ((enc s.K kv).drop (shLen s.ks)) k with
              | some y => rw [hq2] at h2; cases h2
              | none => rw [hq2] at h2; cases h2
      live := by
        intro k b p h1 h2
        by_cases hkin : k ∈ ids
        · exact ⟨k, by rw [← hin k hkin]; exact h1⟩
        · rw [hout k hkin] at h1
          obtain ⟨k0, _, h3, _⟩ := hvm.live k b p h1 h2
          exact ⟨k0, h3⟩
      inj := by
        intro k k' b p p' h1 h2 h3 h4
        by_cases hk : k ∈ ids <;> by_cases hk' : k' ∈ ids
        · rw [hin k hk] at h1; rw [hin k' hk'] at h2; exact hs.inj _ _ _ _ _ h1 h2 h3 h4
        · rw [hin k hk] at h1; rw [hout k' hk'] at h2
          obtain ⟨k0, h5, h6, h7⟩ := hvm.live k' b p' h2 h4
          have := hs.inj _ _ _ _ _ h1 h6 h3 h4
          subst this
          rw [h1] at h6
          cases h6
          rcases List.mem_append.1 hk with h8 | h8
          · obtain ⟨ds', hd⟩ := hxn k h8
            obtain ⟨b2, _, _, h9, _⟩ := hs.box k _ hd
            rw [h1] at h9; cases h9; omega
          · obtain ⟨b2, h9⟩ := hks2.mem h8
            rw [h1] at h9; cases h9; omega
        · rw [hout k hk] at h1; rw [hin k' hk'] at h2
          obtain ⟨k0, h5, h6, h7⟩ := hvm.live k b p h1 h3
          have := hs.inj _ _ _ _ _ h2 h6 h4 h3
          subst this
          rw [h2] at h6
          cases h6
          rcases List.mem_append.1 hk' with h8 | h8
          · obtain ⟨ds', hd⟩ := hxn k' h8
            obtain ⟨b2, _, _, h9, _⟩ := hs.box k' _ hd
            rw [h2] at h9; cases h9; omega
          · obtain ⟨b2, h9⟩ := hks2.mem h8
            rw [h2] at h9; cases h9; omega
        · rw [hout k hk] at h1; rw [hout k' hk'] at h2; exact hvm.inj _ _ _ _ _ h1 h2 h3 h4
      own := by
        intro k bx b p h1 h2 h3 h4
        rcases hbox k bx h1 with ⟨h5, cs', _, _, h6⟩ | ⟨h5, h6⟩
        · obtain ⟨ds', hds⟩ := hxn k (h6 h2)
          rw [hin k h5] at h3
          exact hs.own k _ b p hds rfl h3 h4
        · rw [hout k h5] at h3
          obtain ⟨k0, _, h7, h8⟩ := hvm.live k b p h3 h4
          cases hb0 : st.box k0 with
          | none => rw [hs.dom k0 hb0] at h7; cases h7
          | some bx0 =>
            refine hs.own k0 bx0 b p hb0 ?_ h7 h4
            cases bx0 with
            | ro cs =>
              obtain ⟨b2, _, _, h9, _⟩ := hs.box k0 _ hb0
              rw [h7] at h9; cases h9; omega
            | _ => rfl }
  · rw [hout k (hN2 k hk)] at h1
    obtain ⟨k0, h3, h4, h5⟩ := hvm.live k b p h1 h2
    exact ⟨k0, h3, h4, h5⟩
theorem slotsOf_free {ns : List Nat} {t : Nat} {g : GS} : ∀ {l : List (Nat × Option Nat)} {cs : List Cell}, (∀ c ∈ cs, c.free ns = true) → slotsOf l cs t = some g → t ∈ firsts l ∧ g.tags = [] ∧ freeTV ns g.tv
  | [], cs, _, h => by cases h
  | (u, none) :: r, [], hf, h => by
    have := slotsOf_free (ns := ns) (l := r) (cs := []) (fun c hc => by cases hc) h
    exact ⟨by simp [firsts, this.1], this.2⟩
  | (u, none) :: r, c :: cs, hf, h => by
    simp only [slotsOf] at h
    by_cases hut : t = u
    · rw [cnd_beq_true hut] at h; cases h; exact ⟨by simp [firsts, hut], rfl, hf c (by simp)⟩
    · rw [cnd_beq_false hut] at h
      have := slotsOf_free (fun c hc => hf c (by simp [hc])) h
      exact ⟨by simp [firsts, this.1], this.2⟩
  | (u, some n) :: r, cs, hf, h => by
    simp only [slotsOf] at h
    by_cases hut : t = u
    · rw [cnd_beq_true hut] at h; cases h; exact ⟨by simp [firsts, hut], rfl, fun c hc => hf c (List.mem_of_mem_take hc)⟩
    · rw [cnd_beq_false hut] at h
      have := slotsOf_free (cs := cs.drop n) (fun c hc => hf c (List.mem_of_mem_drop hc)) h
      exact ⟨by simp [firsts, this.1], this.2⟩
theorem boxesOf_free {ns : List Nat} {k : Nat} {cs' : List Cell} : ∀ {l : List (Nat × Nat)} {cs : List Cell}, (∀ c ∈ cs, c.free ns = true) → boxesOf .cells l cs k = some (.cells cs') → ∀ c ∈ cs', c.free ns = true
  | [], cs, _, h => by cases h
  | p :: r, cs, hf, h => by
    simp only [boxesOf] at h
    by_cases hut : k = p.1
    · rw [cnd_beq_true hut] at h; cases h; exact fun c hc => hf c (List.mem_of_mem_take hc)
    · rw [cnd_beq_false hut] at h; exact boxesOf_free (cs := cs.drop p.2) (fun c hc => hf c (List.mem_of_mem_drop hc)) h
theorem leave_loop {ρ₀ : Type} {s : LS ρ₀} {body : Code} {m' m'' : Map} {a' : Act} {kc0 : List Cell} {T : ASt} {xc0 : List Cell} (hs : SatM φ ν m st a w) (hpl : Plain st) {y : s.X.den} (hv : View φ m a w m' T)
    (hTw : ∀ k bx, T.box k = some bx → bx.isRo = false → k ∈ firsts s.xb ∨ k ∈ vnames s.vecs) (hxm : ∀ k ∈ firsts s.xb, m' k = m k)
    (hvm : ∀ k ∈ vnames s.vecs, ∀ b p, m' k = some (b, p) → p % 2 = 0 → ∃ k0 ∈ keysX s.vecs 0 xc0, m k0 = some (b, p) ∧ 0 < p) (hxn : ∀ k ∈ firsts s.xb, ∃ ds, st.box k = some (.cells ds))
    (hTx : ∀ k ∈ firsts s.xb, ∃ bx, T.box k = some bx ∧ bx.isRo = false) (hTv : ∀ k ∈ keysX s.vecs 0 xc0, ∀ b p, m k = some (b, p) → 0 < p)
    (hkt : ∀ k ∈ keysX s.vecs 0 xc0, st.box k ≠ none)
    (hc : chkL s st (dsts body) = true) (hN : chkN s = true) (hD : ∀ d ∈ dsts body, φ.D d = true)
    (hi : SatM (inner φ m m' T body a w) ν0 m'' (tmpl s kc0 (enc s.X y)) a' w') :
    Sat φ ν0 (after s (dsts body) (keysX s.vecs 0 xc0) st (enc s.X y)) a' w' ∧ Plain (after s (dsts body) (keysX s.vecs 0 xc0) st (enc s.X y)) := by
  obtain ⟨hc1, hc2⟩ := andd_true hc
  obtain ⟨hc2, hc3⟩ := andd_true hc2
  obtain ⟨hc3, hc4⟩ := andd_true hc3
  have hP := chkP_spec hc1
  obtain ⟨hN1, hN2⟩ := chkN_spec hN
  let ns := vnames s.vecs
  let k0s := keysX s.vecs 0 xc0
  have hfree : ∀ c ∈ vxC s.vecs 0 (enc s.X y), c.free ns = true := vxC_free (fun k hk => hk) (enc_free ns s.X y)
  have hnone : ∀ k ∈ ns, st.box k = none := by
    intro k hk
    have := allB_spec hc4 k hk
    split at this
    · assumption
    · cases this
  have hmn : ∀ k ∈ ns, m k = none := fun k hk => hs.dom k (hnone k hk)
  have hk0n : ∀ k ∈ k0s, k ∉ ns := fun k hk hn => hkt k hk (hnone k hn)
  -- the boxes lie where they lay
  have hm'' : ∀ k ∈ firsts s.xb, m'' k = m k := by
    intro k hk
    obtain ⟨t, ht⟩ := seconds_mem (mem_spec.1 (allB_spec hc2 k hk))
    obtain ⟨h1, h2, h3, h4⟩ := hP t k ht
    obtain ⟨b, h5, h6⟩ := hs.slot t _ h1 (fun x hx => by cases hx)
    obtain ⟨g, hg⟩ := ptrsOf_in ht
    obtain ⟨k', h7, rfl⟩ := ptrsOf_some hg
    have : (tmpl s kc0 (enc s.X y)).slot t = some ⟨[], .v (.one (.box k' 0))⟩ := by show orE _ _ = _; rw [hg]; rfl
    obtain ⟨b', h8, h9⟩ := hi.slot t _ this (fun x hx => by cases hx)
    have h10 := (hP t k' h7).1
    rw [h1] at h10
    cases h10
    have h11 : a'.tmps.getD t undef = a.tmps.getD t undef := hi.keepT t (by
      show mem t (dsts body) = false
      cases hm : mem t (dsts body) with
      | true => exact absurd (mem_spec.1 hm) h2
      | false => rfl)
    rw [h6, h9] at h11
    cases h11
    rw [h5, h8]
  let kill : Nat → Nat := fun p => if p % 2 = 0 then p + 1 else p
  let ma : Map := fun k => if k ∈ ns then m'' k else if k ∈ k0s then (m k).map (fun x => (x.1, kill x.2)) else m k
  have hma1 : ∀ k ∈ ns, ma k = m'' k := fun k hk => by show (if k ∈ ns then _ else _) = _; rw [if_pos hk]
  have hma2 : ∀ k, k ∉ ns → k ∈ k0s → ma k = (m k).map (fun x => (x.1, kill x.2)) := fun k h1 h2 => by show (if k ∈ ns then _ else if k ∈ k0s then _ else _) = _; rw [if_neg h1, if_pos h2]
  have hma3 : ∀ k, k ∉ ns → k ∉ k0s → ma k = m k := fun k h1 h2 => by show (if k ∈ ns then _ else if k ∈ k0s then _ else _) = _; rw [if_neg h1, if_neg h2]
  have hdead : ∀ k, k ∉ ns → k ∈ k0s → ∀ b p, ma k = some (b, p) → p % 2 = 1 := by
    intro k h1 h2 b p h3
    rw [hma2 k h1 h2, Option.map_eq_some_iff] at h3
    obtain ⟨x, _, h4⟩ := h3
    cases h4
    simp only [kill]; split <;> omega
  have hmle : MLe m ma := by
    intro k b p hk
    have h1 : k ∉ ns := fun h => by rw [hmn k h] at hk; cases hk
    by_cases h2 : k ∈ k0s
    · refine ⟨kill p, by rw [hma2 k h1 h2, hk]; rfl, ?_⟩
      have := hTv k h2 b p hk
      simp only [kill]
      split
      · exact .inr ⟨by assumption, this, rfl⟩
      · exact .inl rfl
    · exact ⟨p, by rw [hma3 k h1 h2]; exact hk, .inl rfl⟩
  -- the blocks that the loop may write
  have hWr : ∀ b, Wr T m' b → ∃ k p, m k = some (b, p) ∧ p % 2 = 0 ∧ (k ∈ firsts s.xb ∨ k ∈ k0s) := by
    rintro b ⟨k, bx, p, h1, h2, h3, h4⟩
    rcases hTw k bx h1 h2 with h5 | h5
    · exact ⟨k, p, by rw [← hxm k h5]; exact h3, h4, .inl h5⟩
    · obtain ⟨k0, h6, h7, _⟩ := hvm k h5 b p h3 h4
      exact ⟨k0, p, h7, h4, .inr h6⟩
  have hWown : ∀ b, Wr T m' b → φ.B b ∨ φ.w0.heap.size ≤ b := by
    intro b hb
    obtain ⟨k, bx, p, h1, h2, h3, h4⟩ := hb
    exact hv.own k bx b p h1 h2 h3 h4
  have hnW : ∀ k b p, m k = some (b, p) → p % 2 = 0 → k ∉ firsts s.xb → k ∉ k0s → ¬ Wr T m' b := by
    intro k b p h1 h2 h3 h4 hw
    obtain ⟨k', p', h5, h6, h7⟩ := hWr b hw
    have := hs.inj _ _ _ _ _ h1 h5 h2 h6
    subst this
    exact h7.elim h3 h4
  have hX0 : ∀ b q, φ.X0 b q → ¬ Wr T m' b := by
    intro b q h1 h2
    obtain ⟨h3, h4, _⟩ := hs.x0 _ _ h1
    rcases hWown b h2 with h5 | h5
    · exact h4 h5
    · omega
  have hnm1 : NoMore w' (XA (inner φ m m' T body a w) m'') (XA φ ma) := by
    rintro b q _ (h | ⟨k, p, h1, h2⟩)
    · exact .inl ⟨.inl h, hX0 b q h⟩
    · by_cases hn : k ∈ ns
      · rw [hma1 k hn] at h1; exact .inr ⟨k, p, h1, h2⟩
      · by_cases hk : k ∈ k0s
        · have := hdead k hn hk b p h1; omega
        · rw [hma3 k hn hk] at h1
          by_cases hx : k ∈ firsts s.xb
          · exact .inr ⟨k, p, by rw [hm'' k hx]; exact h1, h2⟩
          · exact .inl ⟨.inr ⟨k, p, h1, h2⟩, hnW k b p h1 h2 hx hk⟩
  have hnm2 : NoMore w (XA φ m) (XA φ ma) := by
    rintro b q hlt (h | ⟨k, p, h1, h2⟩)
    · exact .inl h
    · by_cases hn : k ∈ ns
      · rw [hma1 k hn] at h1
        have hbx : ∃ bx, (tmpl s kc0 (enc s.X y)).box k = some bx := by
          cases hq : (tmpl s kc0 (enc s.X y)).box k with
          | some bx => exact ⟨bx, rfl⟩
          | none => rw [hi.dom k hq] at h1; cases h1
        obtain ⟨bx, hbx⟩ := hbx
        have hro : bx.isRo = false := by
          rcases orE_some hbx with h3 | ⟨_, h3⟩
          · exact absurd (List.mem_append.2 (.inl (boxesOf_mem h3).1)) (hN2 k hn)
          · rcases orE_some h3 with h4 | ⟨_, h4⟩
            · exact absurd (List.mem_append.2 (.inr (boxesOf_mem h4).1)) (hN2 k hn)
            · obtain ⟨_, o, T', t, l, rfl⟩ := vxB_name h4; rfl
        rcases hi.own k bx b p hbx hro h1 h2 with h3 | h3
        · exact hv.sub h3 q
        · have h3 : w.heap.size ≤ b := h3
          omega
      · by_cases hk : k ∈ k0s
        · have := hdead k hn hk b p h1; omega
        · rw [hma3 k hn hk] at h1; exact .inr ⟨k, p, h1, h2⟩
  have hrefl : Keeps (XA (inner φ m m' T body a w) m'') w' w' := keeps_id _ _
  have hkeeps : Keeps (XA φ m) w w' := by
    refine ⟨hi.old.2.2.2, fun b p hb hx => ?_, fun b hb => (hi.keepS b hb).1, fun b p hb => (hi.keepS b hb).2 p⟩
    have := hi.keep b hb (fun hB => hx (hv.sub hB p))
    unfold World.cell?
    simp only
    rw [this]
    rfl
  have hnsm : ∀ k ∈ ns, ma k = m'' k := hma1
  have hslot : ∀ t g, (after s (dsts body) k0s st (enc s.X y)).slot t = some g → g.tags = [] ∧ VR ma (XA φ ma) w' g.tv (a'.tmps.getD t undef) := by
    intro t g hg
    rcases orE_some hg with h | ⟨_, h⟩
    · have hin := slotsOf_free hfree h
      have hnp : ptrsOf s.ptrs t = none := by
        cases hq : ptrsOf s.ptrs t with
        | none => rfl
        | some g' => obtain ⟨k, h1, _⟩ := ptrsOf_some hq; exact absurd hin.1 (hP t k h1).2.2.1
      have : (tmpl s kc0 (enc s.X y)).slot t = some g := by show orE _ _ = _; rw [hnp]; show orE _ _ = _; rw [h]; rfl
      have h2 := hi.slot t g this (by rw [hin.2.1]; intro x hx; cases hx)
      exact ⟨hin.2.1, (VR.free hnsm hin.2.2 h2).mono hrefl hnm1 (fun _ _ _ h => h) _ _⟩
    · by_cases hd : mem t (dsts body) = true
      · rw [hd] at h; cases h
      · have hd' : mem t (dsts body) = false := by cases hm : mem t (dsts body) with | true => exact absurd hm hd | false => rfl
        rw [hd'] at h
        have h : st.slot t = some g := h
        have h2 := hs.slot t g h (by rw [hpl t g h]; intro x hx; cases hx)
        have h3 : a'.tmps.getD t undef = a.tmps.getD t undef := hi.keepT t hd'
        rw [h3]
        exact ⟨hpl t g h, h2.mle hkeeps hnm2 hmle _ _⟩
  have hnameBox : ∀ k bx, k ∈ ns → vxB s.vecs 0 (enc s.X y) k = some bx → (tmpl s kc0 (enc s.X y)).box k = some bx := by
    intro k bx hn h
    show orE _ (orE _ _) = _
    have h1 : boxesOf .cells s.xb ((vxC s.vecs 0 (enc s.X y)).drop (shLen s.xs)) k = none := by
      cases hq : boxesOf .cells s.xb ((vxC s.vecs 0 (enc s.X y)).drop (shLen s.xs)) k with
      | none => rfl
      | some b => exact absurd (List.mem_append.2 (.inl (boxesOf_mem hq).1)) (hN2 k hn)
    have h2 : boxesOf .ro s.kb (kc0.drop (shLen s.ks)) k = none := by
      cases hq : boxesOf .ro s.kb (kc0.drop (shLen s.ks)) k with
      | none => rfl
      | some b => exact absurd (List.mem_append.2 (.inr (boxesOf_mem hq).1)) (hN2 k hn)
    rw [h1, h2, h]; rfl
  have hnameNone : ∀ k, k ∈ ns → vxB s.vecs 0 (enc s.X y) k = none → m'' k = none := by
    intro k hn h
    refine hi.dom k ?_
    show orE _ (orE _ _) = _
    have h1 : boxesOf .cells s.xb ((vxC s.vecs 0 (enc s.X y)).drop (shLen s.xs)) k = none := by
      cases hq : boxesOf .cells s.xb ((vxC s.vecs 0 (enc s.X y)).drop (shLen s.xs)) k with
      | none => rfl
      | some b => exact absurd (List.mem_append.2 (.inl (boxesOf_mem hq).1)) (hN2 k hn)
    have h2 : boxesOf .ro s.kb (kc0.drop (shLen s.ks)) k = none := by
      cases hq : boxesOf .ro s.kb (kc0.drop (shLen s.ks)) k with
      | none => rfl
      | some b => exact absurd (List.mem_append.2 (.inr (boxesOf_mem hq).1)) (hN2 k hn)
    rw [h1, h2, h]; rfl
  have hxbn : ∀ k ∈ firsts s.xb, k ∉ ns := fun k hk hn => hN2 k hn (List.mem_append.2 (.inl hk))
  have hxbk : ∀ k ∈ firsts s.xb, k ∉ k0s := by
    intro k hk hk0
    obtain ⟨ds, hds⟩ := hxn k hk
    obtain ⟨b, _, _, h1, _⟩ := hs.box k _ hds
    have := hTv k hk0 b 0 h1
    omega
  -- who tells of what lives
  have hlive : ∀ k b p, ma k = some (b, p) → p % 2 = 0 → (k ∈ ns ∧ m'' k = some (b, p)) ∨ (k ∉ ns ∧ k ∉ k0s ∧ m k = some (b, p)) := by
    intro k b p h1 h2
    by_cases hn : k ∈ ns
    · exact .inl ⟨hn, by rw [← hma1 k hn]; exact h1⟩
    · by_cases hk : k ∈ k0s
      · have := hdead k hn hk b p h1; omega
      · exact .inr ⟨hn, hk, by rw [← hma3 k hn hk]; exact h1⟩
  have hnOwn : ∀ k b p, k ∈ ns → m'' k = some (b, p) → p % 2 = 0 → Wr T m' b ∨ w.heap.size ≤ b := by
    intro k b p hn h1 h2
    cases hq : vxB s.vecs 0 (enc s.X y) k with
    | none => rw [hnameNone k hn hq] at h1; cases h1
    | some bx =>
      obtain ⟨_, o, T', t, l, rfl⟩ := vxB_name hq
      exact hi.own k _ b p (hnameBox k _ hn hq) rfl h1 h2
  have hcross : ∀ k k' b p p', k ∈ ns → m'' k = some (b, p) → p % 2 = 0 → k' ∉ ns → k' ∉ k0s → m k' = some (b, p') → p' % 2 = 0 → False := by
    intro k k' b p p' h1 h2 h3 h4 h5 h6 h7
    by_cases hx : k' ∈ firsts s.xb
    · have := hi.inj k k' b p p' h2 (by rw [hm'' k' hx]; exact h6) h3 h7
      exact h4 (this ▸ h1)
    · rcases hnOwn k b p h1 h2 h3 with h8 | h8
      · exact hnW k' b p' h6 h7 hx h5 h8
      · have := hs.low _ _ _ h6 h7; omega
  refine ⟨⟨ma, ?_⟩, fun t g hg => (hslot t g hg).1⟩
  exact {
    tmps := hi.tmps
    defers := hi.defers.trans hs.defers
    slot := fun t g hg _ => (hslot t g hg).2
    skip := fun t g hg ht => absurd (by rw [(hslot t g hg).1]; intro x hx; cases hx) ht
    box := by
      intro k bx hk
      rcases orE_some hk with h | ⟨hn, h⟩
      · obtain ⟨hin, cs', rfl⟩ := boxesOf_mem h
        have hfr := boxesOf_free (fun c hc => hfree c (List.mem_of_mem_drop hc)) h
        have h2 : (tmpl s kc0 (enc s.X y)).box k = some (.cells cs') := by show orE _ _ = _; rw [h]; rfl
        obtain ⟨b, us, T', h3, h4, h5⟩ := hi.box k _ h2
        rw [hm'' k hin] at h3
        exact ⟨b, us, T', by rw [hma3 k (hxbn k hin) (hxbk k hin)]; exact h3, h4, (h5.imp (p := fun c => c.free ns = true) (fun a b hp => CR.free hnsm hp) hfr).mono (CR.mono hrefl hnm1 (fun _ _ _ h => h))⟩
      · have hnot : k ∉ firsts s.xb := fun hin => by obtain ⟨bx', hb⟩ := boxesOf_some (mk := .cells) (cs := (vxC s.vecs 0 (enc s.X y)).drop (shLen s.xs)) hin; rw [hb] at hn; cases hn
        rcases orE_some h with h | ⟨hn2, h⟩
        · obtain ⟨hkn, o, T', t, l, rfl⟩ := vxB_name h
          obtain ⟨b, p, h3, h4⟩ := hi.box k _ (hnameBox k _ hkn h)
          refine ⟨b, p, by rw [hma1 k hkn]; exact h3, ?_⟩
          rcases h4 with h4 | ⟨h4, h5⟩ | ⟨h4, h5, h6, T2, h7⟩
          · exact .inl h4
          · exact .inr (.inl ⟨h4, h5.mono hrefl hnm1 rfl⟩)
          · exact .inr (.inr ⟨h4, h5, h6.mono hrefl hnm1 (TR.mono hrefl hnm1 t), T2, h7⟩)
        · by_cases hk0 : mem k k0s = true
          · rw [hk0] at h
            cases h
            trivial
          · have hk0' : mem k k0s = false := by cases hq : mem k k0s with | true => exact absurd hq hk0 | false => rfl
            rw [hk0'] at h
            have h : st.box k = some bx := h
            have hkk : k ∉ k0s := fun hin => hk0 (mem_spec.2 hin)
            have hkn : k ∉ ns := fun hin => by rw [hnone k hin] at h; cases h
            exact (hs.box k bx h).mle hkeeps hnm2 hmle fun b p h1 h2 => ⟨by rw [hma3 k hkn hkk]; exact h1, hi.keep b (hs.low _ _ _ h1 h2) (hnW k b p h1 h2 hnot hkk)⟩
    inj := by
      intro k k' b p p' h1 h2 h3 h4
      rcases hlive k b p h1 h3 with ⟨h5, h6⟩ | ⟨h5, h5', h6⟩ <;> rcases hlive k' b p' h2 h4 with ⟨h7, h8⟩ | ⟨h7, h7', h8⟩
      · exact hi.inj _ _ _ _ _ h6 h8 h3 h4
      · exact (hcross k k' b p p' h5 h6 h3 h7 h7' h8 h4).elim
      · exact (hcross k' k b p' p h7 h8 h4 h5 h5' h6 h3).elim
      · exact hs.inj _ _ _ _ _ h6 h8 h3 h4
    low := by
      intro k b p h1 h2
      rcases hlive k b p h1 h2 with ⟨h5, h6⟩ | ⟨h5, h5', h6⟩
      · exact hi.low _ _ _ h6 h2
      · exact Nat.lt_of_lt_of_le (hs.low _ _ _ h6 h2) hi.old.2.2.2
    dom := by
      intro k hk
      have h1 : orE (boxesOf .cells s.xb ((vxC s.vecs 0 (enc s.X y)).drop (shLen s.xs)) k) (orE (vxB s.vecs 0 (enc s.X y) k) (cnd (mem k k0s) (some .tok) (st.box k))) = none := hk
      cases hq1 : boxesOf .cells s.xb ((vxC s.vecs 0 (enc s.X y)).drop (shLen s.xs)) k with
      | some x => rw [hq1] at h1; cases h1
      | none =>
        rw [hq1] at h1
        cases hq2 : vxB s.vecs 0 (enc s.X y) k with
        | some x => rw [hq2] at h1; cases h1
        | none =>
          rw [hq2] at h1
          by_cases hn : k ∈ ns
          · rw [hma1 k hn]; exact hnameNone k hn hq2
          · cases hq3 : mem k k0s with
            | true => rw [hq3] at h1; cases h1
            | false =>
              rw [hq3] at h1
              have hkk : k ∉ k0s := fun hin => by rw [mem_spec.2 hin] at hq3; cases hq3
              rw [hma3 k hn hkk]; exact hs.dom k h1
    own := by
      intro k bx b p h1 h2 h3 h4
      rcases hlive k b p h3 h4 with ⟨h5, h6⟩ | ⟨h5, h5', h6⟩
      · rcases hnOwn k b p h5 h6 h4 with h7 | h7
        · exact hWown b h7
        · exact .inr (Nat.le_trans hs.old.2.2.2 h7)
      · rcases orE_some h1 with h | ⟨hn, h⟩
        · obtain ⟨hin, _⟩ := boxesOf_mem h
          obtain ⟨ds, hds⟩ := hxn k hin
          exact hs.own k _ b p hds rfl h6 h4
        · rcases orE_some h with h | ⟨_, h⟩
          · exact absurd (vxB_name h).1 h5
          · cases hq3 : mem k k0s with
            | true => exact absurd (mem_spec.1 hq3) h5'
            | false => rw [hq3] at h; exact hs.own k bx b p h h2 h6 h4
    vn := by
      intro k b p h1 h2 h3
      rcases hlive k b p h1 h2 with ⟨h5, h6⟩ | ⟨h5, h5', h6⟩
      · exact hi.vn _ _ _ h6 h2 h3
      · exact hs.vn _ _ _ h6 h2 h3
    ngl := by
      intro k b p h1 h2
      rcases hlive k b p h1 h2 with ⟨h5, h6⟩ | ⟨h5, h5', h6⟩
      · exact hi.ngl _ _ _ h6 h2
      · exact hs.ngl _ _ _ h6 h2
    n0 := hs.n0
    glob := hi.glob
    old := ⟨hi.old.1.trans hs.old.1, hi.old.2.1.trans hs.old.2.1, hi.old.2.2.1.trans hs.old.2.2.1, Nat.le_trans hs.old.2.2.2 hi.old.2.2.2⟩
    keep := fun b h1 h2 => (hi.keep b (Nat.lt_of_lt_of_le h1 hs.old.2.2.2) (fun hB => by
      rcases hWown b hB with h3 | h3
      · exact h2 h3
      · omega)).trans (hs.keep b h1 h2)
    keepS := fun b h1 => ⟨(hi.keepS b (Nat.lt_of_lt_of_le h1 hs.old.2.2.2)).1.trans (hs.keepS b h1).1, fun p => ((hi.keepS b (Nat.lt_of_lt_of_le h1 hs.old.2.2.2)).2 p).trans ((hs.keepS b h1).2 p)⟩
    x0 := hs.x0
    keepT := fun t ht => by
      have hnd : mem t (dsts body) = false := by
        cases hm : mem t (dsts body) with
        | true => have := hD t (mem_spec.1 hm); rw [ht] at this; cases this
        | false => rfl
      exact (hi.keepT t hnd).trans (hs.keepT t ht) }
end
end Go.Proofs.Ytbnihoioblmgkaa.Sy
end

section
/- The symbolic evaluator is sound: whole bodies, loops by their rounds, functions (own work). -/
namespace Go.Proofs.Ytbnihoioblmgkaa.Sy
open Go Go.RowKit
set_option linter.unusedVariables false
set_option linter.unusedSimpArgs false
section
variable {φ : Fr} {ν ν' : Nat → Bool} {m : Map} {st : ASt} {a : Act} {w w' : World} {own : List (Nat × Bool)} {W : List Nat} {P : Program} {C : Ctx} {o : Oper} {e : Eff}
  {K : Act → World → Prop}
theorem needs_all {ρ₀ ρ : Type} {rt : ρ₀ → ρ} {Post : ρ → Prop} : ∀ {l : List ER} {t : Tr ρ₀ ρ}, (needs l t).All rt Post → needsHold l ∧ t.All rt Post
  | [], t, h => ⟨fun e he => (by cases he), h⟩
  | e :: r, t, h => by
    simp only [needs] at h
    split at h
    · rename_i p hp
      obtain ⟨h1, h2⟩ := needs_all h.2
      refine ⟨fun x hx q hq => ?_, h2⟩
      rcases List.mem_cons.1 hx with rfl | hx
      · rw [hp] at hq; cases hq; exact h.1
      · exact h1 x hx q hq
    · rename_i hp
      obtain ⟨h1, h2⟩ := needs_all h
      refine ⟨fun x hx q hq => ?_, h2⟩
      rcases List.mem_cons.1 hx with rfl | hx
      · rw [hp] at hq; cases hq
      · exact h1 x hx q hq
theorem dsts_region {id : Nat} {ops : Array Oper} {d : Bool} {o : Oper} {t : Nat} (ho : o ∈ ops.toList) (hd : o.dst = some t) : t ∈ dsts (.region id ops d) :=
  List.mem_filterMap.2 ⟨o, ho, hd⟩
theorem evCode_ok (hC : CtxOk P C) {ρ₀ ρ : Type} {Ret : Exit → Nat → (Nat → Nat → Prop) → ρ₀ → Act → World → Prop} {L : Nat → Option (LS ρ₀)} {rt : ρ₀ → ρ} {Post : ρ → Prop} {φ : Fr} (hφ : FrOk C.G φ)
    (hmono : ∀ e n X X' r a w, (∀ b p, X' b p → X b p) → Ret e n X r a w → Ret e n X' r a w) :
    ∀ (c : Code) (st : ASt) (k : Ex → ASt → Tr ρ₀ ρ) (R : Exit → Act → World → Prop) (a : Act) (w : World), Plain st → Sat φ ν0 st a w → (∀ d ∈ dsts c, d < φ.n ∧ φ.D d = true) →
      (∀ body ∈ loopsIn c, ∀ s, L (codeId body) = some s → LoopOk P C.G Ret body s) → (evCode C L c st k).All rt Post →
      (∀ x st' a' w', Plain st' → Sat φ ν0 st' a' w' → (k x st').All rt Post → R (exOf x) a' w') →
      (∀ e, IsOut e → ∀ r a' w', Post (rt r) → Ret e φ.n0 φ.X0 r a' w' → KeepW φ w' → KeepA φ a' → R e a' w') → c.wp P R a w := by
  intro c
  induction c with
  | skip => intro st k R a w hp hs hD hL hA hk hr; exact wp_skip (hk .normal st a w hp hs hA)
  | region id ops d =>
    intro st k R a w hp hs hD hL hA hk hr
    simp only [evCode] at hA
    cases hnd : nodup (ops.toList.filterMap (·.dst)) with
    | false => rw [hnd] at hA; exact hA.elim
    | true =>
      rw [hnd] at hA
      simp only [cnd] at hA
      split at hA
      case h_2 => exact hA.elim
      rename_i l hl
      obtain ⟨m, hm⟩ := hs.frzAll (ks := C.fz id)
      have hreg : RegM φ ν0 m [] (frzAll (C.fz id) st) a w := ⟨hm, fun t g hg x hx => (by rw [frzAll_slot] at hg; rw [hp t g hg] at hx; cases hx), fun d hd => (by cases hd)⟩
      have hgo : needsHold l → (k .normal (applyAll l (frzAll (C.fz id) st)).plain).All rt Post → (Code.region id ops d).wp P R a w := fun hn hA => region_ok (φ := φ) (Q := R) hC hφ (fun o ho d hd => hD d (dsts_region ho hd)) hnd hl hn ⟨m, hreg⟩
        (fun a' w' ν' W' ⟨m', h'⟩ => hk .normal _ a' w' plain_plain ⟨m', h'.sat.plain⟩ hA)
      split at hA
      · obtain ⟨hn, hA⟩ := needs_all hA
        exact hgo hn hA
      · rename_i i hi
        split at hA
        case h_2 => exact hA.elim
        rename_i p b v s hpr
        obtain ⟨hn, hA⟩ := needs_all hA
        have hpA : (∀ q, p = some q → q) ∧ (Tr.ite b (k (.pan v) s.plain) (needs (l.drop i) (k .normal (applyAll l (frzAll (C.fz id) st)).plain))).All rt Post := by
          cases p with
          | none => exact ⟨(fun q hq => by cases hq), hA⟩
          | some q => exact ⟨(fun q' hq => by cases hq; exact hA.1), hA.2⟩
        obtain ⟨hpp, hA1, hA2⟩ := hpA
        cases hb : b with
        | false =>
          obtain ⟨hn2, hA⟩ := needs_all (hA2 hb)
          refine hgo (fun x hx => ?_) hA
          rw [← List.take_append_drop i l, List.mem_append] at hx
          rcases hx with hx | hx
          · exact hn x hx
          · exact hn2 x hx
        | true =>
          subst hb
          exact region_pan (φ := φ) (Q := R) hC hφ (fun o ho d hd => hD d (dsts_region ho hd)) hnd hl hpr hn hpp ⟨m, hreg⟩ (fun a' w' ν' ⟨m', h'⟩ => hk (.pan v) _ a' w' plain_plain ⟨m', h'.plain⟩ (hA1 rfl))
  | seq x y ihx ihy =>
    intro st k R a w hp hs hD hL hA hk hr
    simp only [evCode] at hA
    have hDx : ∀ d ∈ dsts x, d < φ.n ∧ φ.D d = true := fun d hd => hD d (by simp only [dsts, app_eq, List.mem_append]; exact .inl hd)
    have hDy : ∀ d ∈ dsts y, d < φ.n ∧ φ.D d = true := fun d hd => hD d (by simp only [dsts, app_eq, List.mem_append]; exact .inr hd)
    refine wp_seq (ihx st _ (Exit.then (y.wp P R) R) a w hp hs hDx (fun b hb => hL b (by simp [loopsIn, hb])) hA (fun x' st' a' w' hp' hs' hA' => ?_) (fun e he r a' w' => by rcases he with rfl | ⟨v, rfl⟩; exact hr _ (.inl rfl) r a' w'; exact hr _ (.inr ⟨v, rfl⟩) r a' w'))
    cases x' with
    | normal => exact ihy st' k R a' w' hp' hs' hDy (fun b hb => hL b (by simp [loopsIn, hb])) hA' hk hr
    | exit id => exact hk (.exit id) st' a' w' hp' hs' hA'
    | ret => exact hk .ret st' a' w' hp' hs' hA'
    | pan v => exact hk (.pan v) st' a' w' hp' hs' hA'
  | cond c x y ihx ihy =>
    intro st k R a w hp hs hD hL hA hk hr
    simp only [evCode] at hA
    have hDx : ∀ d ∈ dsts x, d < φ.n ∧ φ.D d = true := fun d hd => hD d (by simp only [dsts, app_eq, List.mem_append]; exact .inl hd)
    have hDy : ∀ d ∈ dsts y, d < φ.n ∧ φ.D d = true := fun d hd => hD d (by simp only [dsts, app_eq, List.mem_append]; exact .inr hd)
    split at hA
    case h_2 => exact hA.elim
    rename_i cv hc
    obtain ⟨m, hm⟩ := hs
    have hcv : a.eval c = .bool cv := opndc_ok hm (fun x hx => by cases hx) hc
    refine wp_cond_split hcv (fun ht => ?_) (fun hf => ?_)
    · exact ihx st k R a w hp ⟨m, hm⟩ hDx (fun b hb => hL b (by simp [loopsIn, hb])) (hA.1 ht) hk hr
    · exact ihy st k R a w hp ⟨m, hm⟩ hDy (fun b hb => hL b (by simp [loopsIn, hb])) (hA.2 hf) hk hr
  | block id b ih =>
    intro st k R a w hp hs hD hL hA hk hr
    simp only [evCode] at hA
    refine wp_block (ih st _ (Exit.inBlock id R) a w hp hs hD hL hA (fun x st' a' w' hp' hs' hA' => ?_) (fun e he r a' w' => by rcases he with rfl | ⟨v, rfl⟩; exact hr _ (.inl rfl) r a' w'; exact hr _ (.inr ⟨v, rfl⟩) r a' w'))
    cases x with
    | normal => exact hk .normal st' a' w' hp' hs' hA'
    | ret => exact hk .ret st' a' w' hp' hs' hA'
    | pan v => exact hk (.pan v) st' a' w' hp' hs' hA'
    | exit j =>
      simp only [exOf, Exit.inBlock]
      by_cases hj : j = id
      · rw [if_pos hj]
        simp only at hA'
        rw [cnd_beq_true hj] at hA'
        exact hk .normal st' a' w' hp' hs' hA'
      · rw [if_neg hj]
        simp only at hA'
        rw [cnd_beq_false hj] at hA'
        exact hk (.exit j) st' a' w' hp' hs' hA'
  | loop body ih =>
    intro st0 k R a w hp0 hs hD hL hA hk hr
    simp only [evCode] at hA
    split at hA
    case h_2 => exact hA.elim
    rename_i s hLs
    have hs' := hs.frzAll (ks := s.fz)
    have hp : Plain (frzAll s.fz st0) := fun t g hg => by rw [frzAll_slot] at hg; exact hp0 t g hg
    generalize frzAll s.fz st0 = st at hA hs' hp
    split at hA
    case h_2 => exact hA.elim
    rename_i kc0 xc0 hkc hxc hchk
    obtain ⟨hchk, hN⟩ := andd_true hchk
    split at hA
    case h_2 => exact hA.elim
    rename_i kc xc hku hxu hnd
    split at hA
    case h_2 => exact hA.elim
    rename_i kv xv hkv hxv
    obtain ⟨m, hm⟩ := hs'
    have hDb : ∀ d ∈ dsts body, d < φ.n ∧ φ.D d = true := hD
    obtain ⟨hfK, hfX, m', hview, hxm, hvm, hxn⟩ := tmpl_view hm hkc hxc (andd_true hchk).1 hN hku hxu hnd hkv hxv
    have hin := hview.into (body := body) hm
    have hTw : ∀ k bx, (tmpl s (enc s.K kv) (enc s.X xv)).box k = some bx → bx.isRo = false → k ∈ firsts s.xb ∨ k ∈ vnames s.vecs := by
      intro k bx h1 h2
      rcases orE_some h1 with h3 | ⟨_, h3⟩
      · exact .inl (boxesOf_mem h3).1
      · rcases orE_some h3 with h4 | ⟨_, h4⟩
        · obtain ⟨_, cs', rfl⟩ := boxesOf_mem h4; cases h2
        · exact .inr (vxB_name h4).1
    have hTx : ∀ k ∈ firsts s.xb, ∃ bx, (tmpl s (enc s.K kv) (enc s.X xv)).box k = some bx ∧ bx.isRo = false := by
      intro k hk'
      obtain ⟨bx, hb⟩ := boxesOf_some (mk := .cells) (cs := (vxC s.vecs 0 (enc s.X xv)).drop (shLen s.xs)) hk'
      obtain ⟨_, cs', rfl⟩ := boxesOf_mem hb
      exact ⟨.cells cs', by show orE _ _ = _; rw [hb]; rfl, rfl⟩
    have hkeys : ∀ k ∈ keysX s.vecs 0 xc0, st.box k ≠ none ∧ ∀ b p, m k = some (b, p) → 0 < p := by
      obtain ⟨xc1, xc2, hx1, hx2, rfl⟩ := appO_spec hxc
      obtain ⟨xvs1, _, hxr1⟩ := rdS_ok hm hx1
      obtain ⟨xvs2, _, hxr2, _⟩ := rdW_ok hm hx2
      have hcs := All2.append hxr1 hxr2
      have key : ∀ (vs : List (Nat × Nat × Bool × Nat)) (i : Nat) (cs : List Cell) (us : List Value), CRs m (XA φ m) w cs us → ∀ k ∈ keysX vs i cs, st.box k ≠ none ∧ ∀ b p, m k = some (b, p) → 0 < p := by
        intro vs i cs
        induction cs generalizing i with
        | nil => intro us _ k hk'; cases hk'
        | cons c cs ih2 =>
          intro us hc k hk'
          cases us with
          | nil => exact hc.elim
          | cons u us =>
            have rest := ih2 (Nat.succ i) us hc.2 k
            simp only [keysX] at hk'
            split at hk'
            · split at hk'
              · rename_i e k0
                rcases List.mem_cons.1 hk' with rfl | hk'
                · obtain ⟨b, p, h1, h2, _⟩ := hc.1
                  exact ⟨(fun hn => by rw [hm.dom _ hn] at h1; cases h1), (fun b' p' h3 => by rw [h1] at h3; cases h3; exact h2)⟩
                · exact rest hk'
              · exact rest hk'
            · exact rest hk'
      exact key _ _ _ _ hcs
    have hok := hL body (by simp [loopsIn]) s hLs kv xv (inner φ m m' _ body a w) a w ⟨hφ.wok, hφ.gl⟩
      (fun p hpp => by rw [hpp] at hA; exact hA.1) hfK hfX (fun d hd => ⟨(hDb d hd).1, mem_spec.2 hd⟩) ⟨_, hin⟩
    refine wp_mono hok fun e a' w' hq => ?_
    have hA2 : (match s.R with | none => k (.exit s.exit) (after s (dsts body) (keysX s.vecs 0 xc0) st (enc s.X (s.G kv xv))) | some R => Tr.opt (R kv xv) (k (.exit s.exit) (after s (dsts body) (keysX s.vecs 0 xc0) st (enc s.X (s.G kv xv))))).All rt Post := by
      cases hi : s.inv with
      | none => rw [hi] at hA; exact hA
      | some p => rw [hi] at hA; exact hA.2
    have hout : ∀ e, (IsOut e ∧ ∃ R r, s.R = some R ∧ R kv xv = some r ∧ Ret e (inner φ m m' (tmpl s (enc s.K kv) (enc s.X xv)) body a w).n0 (inner φ m m' (tmpl s (enc s.K kv) (enc s.X xv)) body a w).X0 r a' w' ∧ KeepW (inner φ m m' (tmpl s (enc s.K kv) (enc s.X xv)) body a w) w' ∧ KeepA (inner φ m m' (tmpl s (enc s.K kv) (enc s.X xv)) body a w) a') → R e a' w' := by
      intro e ⟨he, hq⟩
      obtain ⟨Rf, r, h1, h2, h3, h4, h9⟩ := hq
      rw [h1] at hA2
      have hWown : ∀ b, Wr (tmpl s (enc s.K kv) (enc s.X xv)) m' b → φ.B b ∨ φ.w0.heap.size ≤ b := by
        rintro b ⟨k, bx, p, h5, h6, h7, h8⟩
        exact hview.own k bx b p h5 h6 h7 h8
      have hX0 : ∀ b p, φ.X0 b p → (inner φ m m' (tmpl s (enc s.K kv) (enc s.X xv)) body a w).X0 b p := by
        intro b p h
        refine ⟨.inl h, fun hw => ?_⟩
        obtain ⟨h5, h6, _⟩ := hm.x0 _ _ h
        rcases hWown b hw with h7 | h7
        · exact h6 h7
        · omega
      refine hr e he r a' w' (hA2.1 r h2) (hmono _ _ _ _ r a' w' hX0 h3) ⟨⟨h4.old.1.trans hm.old.1, h4.old.2.1.trans hm.old.2.1, h4.old.2.2.1.trans hm.old.2.2.1, Nat.le_trans hm.old.2.2.2 h4.old.2.2.2⟩, fun b hb hnb => ?_, fun b hb => ?_⟩ ⟨h9.1.trans hm.defers, fun t ht => (h9.2 t (by
        show mem t (dsts body) = false
        cases hq : mem t (dsts body) with
        | false => rfl
        | true => rw [(hDb t (mem_spec.1 hq)).2] at ht; cases ht)).trans (hm.keepT t ht)⟩
      · refine (h4.keep b (Nat.lt_of_lt_of_le hb hm.old.2.2.2) fun hw => ?_).trans (hm.keep b hb hnb)
        rcases hWown b hw with h5 | h5
        · exact hnb h5
        · omega
      · exact ⟨(h4.keepS b (Nat.lt_of_lt_of_le hb hm.old.2.2.2)).1.trans (hm.keepS b hb).1, fun p => ((h4.keepS b (Nat.lt_of_lt_of_le hb hm.old.2.2.2)).2 p).trans ((hm.keepS b hb).2 p)⟩
    cases e with
    | exit id =>
      obtain ⟨rfl, hR, m'', hi⟩ := hq
      obtain ⟨h1, h2⟩ := leave_loop hm hp hview hTw hxm hvm hxn hTx (fun k hk' => (hkeys k hk').2) (fun k hk' => (hkeys k hk').1) hchk hN (fun d hd => (hDb d hd).2) hi
      refine hk (.exit s.exit) _ a' w' h2 h1 ?_
      cases hRR : s.R with
      | none => rw [hRR] at hA2; exact hA2
      | some Rf => rw [hRR] at hA2; exact hA2.2 (hR Rf hRR)
    | normal => exact hout _ hq
    | ret => exact hout _ hq
    | goto l => exact hout _ hq
    | panic ch => exact hout _ hq
    | outgrown => exact hout _ hq
  | exit id => intro st k R a w hp hs hD hL hA hk hr; exact wp_exit (hk (.exit id) st a w hp hs hA)
  | ret => intro st k R a w hp hs hD hL hA hk hr; exact wp_ret (hk .ret st a w hp hs hA)
  | rangeFunc f ps as b => intro st k R a w hp hs hD hL hA hk hr; exact hA.elim
  | scope b ih => intro st k R a w hp hs hD hL hA hk hr; exact hA.elim
  | label l => intro st k R a w hp hs hD hL hA hk hr; exact hA.elim
  | goto l => intro st k R a w hp hs hD hL hA hk hr; exact hA.elim
  | refuse s => intro st k R a w hp hs hD hL hA hk hr; exact hA.elim
def RetAt (P : Program) (fn : Func) (rsh : Rsh) (fr : Option Nat) (r : Ty) (e : Exit) (n0 : Nat) (X : Nat → Nat → Prop) (y : r.den) (a : Act) (w : World) : Prop :=
  e = .ret ∧ ∃ v, (results fn a.tmps).run P w = .ok v w ∧ RetF n0 fr w X rsh r y v
theorem keeps_refl (X : Nat → Nat → Prop) (w : World) : Keeps X w w := ⟨Nat.le_refl _, fun _ _ _ _ => rfl, fun _ _ => rfl, fun _ _ _ => rfl⟩
theorem RetAt.mono {fn : Func} {rsh : Rsh} {fr : Option Nat} {r : Ty} {n0 : Nat} {X X' : Nat → Nat → Prop} {y : r.den} {e : Exit} (hX : ∀ b p, X' b p → X b p) (h : RetAt P fn rsh fr r e n0 X y a w) : RetAt P fn rsh fr r e n0 X' y a w := by
  obtain ⟨h1, v, h2, cs, h3, h3', h4⟩ := h
  exact ⟨h1, v, h2, cs, h3.mono (keeps_refl _ _) (fun b p _ h => hX b p h) _ _ _, h3', h4⟩
theorem run_mapM_results {fn : Func} (hC : CtxOk P C) (hs : SatM φ ν m st a w) : ∀ {l : List ResultVar} {xs : List SV}, resCells C fn st l = some xs →
    ∃ vs : List Value, (l.mapM fun x => (match x with | .tmp t => pure (a.tmps.getD t undef) | .cell b t => do loadVar t (← asAddr (a.tmps.getD b undef)) : Sem Value)).run P w = .ok vs w ∧ All2 (SR m (XA φ m) w) xs vs
  | [], xs, h => by simp only [resCells, Option.some.injEq] at h; subst h; exact ⟨[], rfl, trivial⟩
  | .tmp t :: r, xs, h => by
    simp only [resCells] at h
    split at h
    case h_2 => cases h
    rename_i v l' hv hl
    simp only [Option.some.injEq] at h
    subst h
    obtain ⟨vs, h1, h2⟩ := run_mapM_results hC hs hl
    have hv' := opnd1_ok hs (fun x hx => by cases hx) hv
    refine ⟨a.tmps.getD t undef :: vs, ?_, hv', h2⟩
    rw [List.mapM_cons, Sem.run_bind]
    simp only [Sem.run_pure, Result.andThen_ok]
    rw [Sem.run_bind, h1]
    rfl
  | .cell b t :: r, xs, h => by
    simp only [resCells] at h
    split at h
    case h_2 => cases h
    rename_i k d l' hb hD hl
    split at h
    case h_2 => cases h
    rename_i cs hbx
    split at h
    case h_2 => cases h
    rename_i v hv
    obtain ⟨hle, h⟩ := cnd_some h
    simp only [Option.some.injEq] at h
    subst h
    have hle : d.ty.n ≤ cs.length := by have := Nat.le_of_ble_eq_true hle; rwa [len'_eq] at this
    obtain ⟨vs, h1, h2⟩ := run_mapM_results hC hs hl
    have hT := hC.D t d hD
    obtain ⟨blk, us, T, hm, hu, hh, hcs⟩ := box_cells hs (opndc_ok hs (fun x hx => by cases hx) hb) (.inl hbx)
    have hlen := hcs.length
    simp only [Array.length_toList] at hlen
    have hload : (loadVar t ⟨blk, 0, none⟩).run P w = .ok (mkV d.agg (us.toList.take d.ty.n)) w :=
      run_loadVar hT (by simp; omega) (fun j hj => by
        rw [Nat.zero_add, cell_heap hh, List.getD_eq_getElem?_getD, List.getElem?_take, if_pos hj, Array.getElem?_toList, Array.getElem?_eq_getElem (by omega)]
        rfl) hT.one
    refine ⟨mkV d.agg (us.toList.take d.ty.n) :: vs, ?_, mkSV_ok hv (All2.take _ hcs), h2⟩
    have hu' : a.tmps.getD b undef = .pointer (some ⟨blk, 0, none⟩) := hu
    have hhead : ((asAddr (a.tmps.getD b undef)) >>= fun x => loadVar t x).run P w = .ok (mkV d.agg (us.toList.take d.ty.n)) w := by
      rw [Sem.run_bind, hu']; exact hload
    rw [List.mapM_cons, Sem.run_bind]
    simp only []
    rw [hhead, Result.andThen_ok, Sem.run_bind, h1]
    rfl
theorem freshL_ok (hs : SatM φ ν m st a w) {T : TypeId} {ks : List Nat} : ∀ {cs cs' : List Cell} {us : List Value}, unvL false st cs = some cs' → freshL st T cs = true → CRs m (XA φ m) w cs us → All2 (FreshV φ.n0 T w) (cs'.map Cell.no) us
  | [], cs', us, h, hf, hc => by simp only [unvL, Option.some.injEq] at h; subst h; match us, hc with | [], _ => exact trivial
  | c :: cs, cs', [], h, hf, hc => hc.elim
  | c :: cs, cs', u :: us, h, hf, hc => by
    simp only [unvL] at h
    split at h
    case h_2 => cases h
    rename_i c1 r1 h1 h2
    cases h
    cases c with
    | lst e tl l =>
      cases tl with
      | no => cases hf
      | exact =>
        obtain ⟨hf1, hf2⟩ := andd_true hf
        simp only [unvC, Option.some.injEq] at h1
        subst h1
        refine ⟨.inl ?_, freshL_ok hs (ks := ks) h2 hf2 hc.2⟩
        rcases hc.1.2 with ⟨_, hu⟩ | ⟨hne, _⟩
        · exact hu
        · cases l with | nil => exact absurd rfl hne | cons => cases hf1
    | vref e k =>
      simp only [freshL] at hf
      have hsome : ∃ o T' e' l, st.box k = some (.vec o T' e' l) ∧ freshL st T cs = true ∧ unB T = T' ∧ (o = true ∨ (Nat.ble big T = true ∧ o = false)) := by
        split at hf
        · rename_i T' e' l hbx
          obtain ⟨hf1, hf2⟩ := andd_true hf
          exact ⟨true, T', e', l, hbx, hf2, beq_eq hf1, .inl rfl⟩
        · rename_i T' e' l hbx
          obtain ⟨hf1, hf2⟩ := andd_true hf
          exact ⟨false, T', e', l, hbx, hf2, beq_eq (andd_true hf1).2, .inr ⟨(andd_true hf1).1, rfl⟩⟩
        · cases hf
      obtain ⟨o, T', e', l, hbx, hf2, hT', hkind⟩ := hsome
      simp only [unvC, hbx, cnd] at h1
      split at h1
      case h_2 => cases h1
      rename_i l' hl'
      cases h1
      obtain ⟨e0, hl2⟩ := castL_eq hl'
      subst e0
      simp only at hl2
      subst hl2
      refine ⟨?_, freshL_ok hs (ks := ks) h2 hf2 hc.2⟩
      obtain ⟨b, p, hm, hp, hval⟩ := hc.1
      obtain ⟨b', p', h3, h4⟩ := hs.box k _ hbx
      rw [hm] at h3
      cases h3
      rcases h4 with ⟨_, rfl⟩ | ⟨rfl, vs, cap, ⟨z9, hh, hz9⟩, hsz, hcap, hmax, hel⟩ | ⟨h4, rfl, hrk, T9, hsh9⟩
      · rcases hval with ⟨_, hu⟩ | ⟨hne, _⟩
        · exact .inl hu
        · exact absurd rfl hne
      · rcases hval with ⟨h5, _⟩ | ⟨_, cap2, T2, hu, hsh, hle2, hmax2⟩
        · omega
        · refine .inr (.inl ⟨b, _, cap2, vs, hu, hs.vn _ _ _ hm (by omega) (by omega), by rw [hT']; exact ⟨z9, hh, hz9⟩, ?_, hmax2⟩)
          have : w.shape? b = some (T', vs.size) := by unfold World.shape?; rw [hh]
          rw [this] at hsh
          simp only [Option.some.injEq, Prod.mk.injEq] at hsh
          exact hsh.2
      · rcases hkind with h9 | ⟨h9, _⟩
        · rw [h9] at h4; cases h4
        · rcases hval with ⟨h5, _⟩ | ⟨_, cap2, T2, hu, hsh, hle2, hmax2⟩
          · omega
          · rw [vlen_dead] at hu hle2
            rw [hsh9] at hsh
            simp only [Option.some.injEq, Prod.mk.injEq] at hsh
            exact .inr (.inr ⟨h9, b, _, cap2, T9, hu, hsh9, hsh.2⟩)
    | _ => 
      simp only [unvC, Option.some.injEq] at h1
      subst h1
      exact ⟨trivial, freshL_ok hs (ks := ks) h2 hf hc.2⟩
theorem freshS_ok (hs : SatM φ ν m st a w) {fr : Option Nat} {ks : List Nat} : ∀ {xs xs' : List SV} {us : List Value}, unvSs false st xs = some xs' → freshO st xs fr = true → All2 (SR m (XA φ m) w) xs us → (∀ k ∈ vksS xs, k ∈ ks) →
    All2 (SRg fun c v => CR m (Xc φ m ks) w c v ∧ ∀ T, fr = some T → FreshV φ.n0 T w c.no v) xs' us
  | [], xs', us, h, hf, hc, hk => by simp only [unvSs, Option.some.injEq] at h; subst h; match us, hc with | [], _ => exact trivial
  | x :: xs, xs', [], h, hf, hc, hk => hc.elim
  | x :: xs, xs', u :: us, h, hf, hc, hk => by
    simp only [unvSs] at h
    split at h
    case h_2 => cases h
    rename_i x1 r1 h1 h2
    cases h
    have hf1 : ∀ T, fr = some T → freshL st T x.cells = true := fun T hT => by subst hT; exact (andd_true hf).1
    have hf2 : freshO st xs fr = true := by
      cases fr with
      | none => rfl
      | some T => exact (andd_true hf).2
    refine ⟨?_, freshS_ok hs h2 hf2 hc.2 (fun k hk' => hk k (by simp [vksS, app_eq, hk']))⟩
    have hcr := unvS_ok hs h1 hc.1 (ks := ks) (fun _ k hk' => hk k (by simp [vksS, app_eq, hk']))
    cases x with
    | one c =>
      simp only [unvS] at h1
      split at h1
      case h_2 => cases h1
      rename_i c' hc'
      cases h1
      refine ⟨hcr, fun T hT => ?_⟩
      have := freshL_ok hs (ks := ks) (cs := [c]) (cs' := [c']) (us := [u]) (by simp [unvL, hc']) (hf1 T hT) ⟨hc.1, trivial⟩
      exact this.1
    | agg cs =>
      simp only [unvS] at h1
      split at h1
      case h_2 => cases h1
      rename_i c' hc'
      cases h1
      obtain ⟨vs, rfl, h3⟩ := hcr
      obtain ⟨vs', h4, h5⟩ := hc.1
      cases h4
      refine ⟨vs, rfl, ?_⟩
      have hall : ∀ T, fr = some T → All2 (fun c v => FreshV φ.n0 T w c.no v) c' vs.toList := by
        intro T hT
        have h6 := freshL_ok hs (ks := ks) hc' (hf1 T hT) h5
        have key : ∀ (cs : List Cell) (us : List Value), All2 (FreshV φ.n0 T w) (cs.map Cell.no) us → All2 (fun c v => FreshV φ.n0 T w c.no v) cs us := by
          intro cs
          induction cs with
          | nil => intro us h; cases us with | nil => trivial | cons => exact h.elim
          | cons c cs ih => intro us h; cases us with | nil => exact h.elim | cons u us => exact ⟨h.1, ih us h.2⟩
        exact key _ _ h6
      have key2 : ∀ (cs : List Cell) (us : List Value), CRs m (Xc φ m ks) w cs us → (∀ T, fr = some T → All2 (fun c v => FreshV φ.n0 T w c.no v) cs us) → All2 (fun c v => CR m (Xc φ m ks) w c v ∧ ∀ T, fr = some T → FreshV φ.n0 T w c.no v) cs us := by
        intro cs
        induction cs with
        | nil => intro us h _; cases us with | nil => trivial | cons => exact h.elim
        | cons c cs ih => intro us h h2; cases us with | nil => exact h.elim | cons u us => exact ⟨⟨h.1, fun T hT => (h2 T hT).1⟩, ih us h.2 fun T hT => (h2 T hT).2⟩
      exact key2 _ _ h3 hall
theorem evRet_ok (hC : CtxOk P C) (hs : SatM φ ν m st a w) {fn : Func} {rsh : Rsh} {fr : Option Nat} {r : Ty} {x : Ex} {Post : r.den → Prop} (h : (evRet C fn rsh fr r x st).All (fun y => y) Post) :
    (∀ id, x ≠ .exit id) ∧ (∀ v, x ≠ .pan v) ∧ ∃ y, Post y ∧ RetAt P fn rsh fr r .ret φ.n0 φ.X0 y a w := by
  unfold evRet at h
  split at h
  · exact h.elim
  · exact h.elim
  · exact h.elim
  · rename_i hne hnp hnt
    refine ⟨fun id hx => hne id hx, fun v hx => hnp v hx, ?_⟩
    split at h
    case h_2 => exact h.elim
    rename_i xs0 hxs0
    split at h
    case h_2 => exact h.elim
    rename_i xs hxs hfr
    split at h
    case h_2 => exact h.elim
    rename_i cs hcs
    split at h
    case h_2 => exact h.elim
    rename_i y hy
    obtain ⟨vs, h1, h2⟩ := run_mapM_results hC hs hxs0
    have h2' := freshS_ok hs hxs hfr h2 (ks := vksS xs0) (fun k hk => hk)
    obtain ⟨cv, h3, h4'⟩ := shapes_rel hcs h2'
    have h4 : CRs m (Xc φ m (vksS xs0)) w cs cv := h4'.mono fun _ _ h => h.1
    have h5 := dec_ok hy h4
    obtain ⟨henc, _⟩ := enc_dec hy
    have hfresh : ∀ T, fr = some T → All2 (FreshV φ.n0 T w) (enc r y) cv := by
      intro T hT
      rw [henc]
      have key : ∀ (cs : List Cell) (us : List Value), All2 (fun c v => CR m (Xc φ m (vksS xs0)) w c v ∧ ∀ T, fr = some T → FreshV φ.n0 T w c.no v) cs us → All2 (FreshV φ.n0 T w) (cs.map Cell.no) us := by
        intro cs
        induction cs with
        | nil => intro us h; cases us with | nil => trivial | cons => exact h.elim
        | cons c cs ih => intro us h; cases us with | nil => exact h.elim | cons u us => exact ⟨h.1.2 T hT, ih us h.2⟩
      exact key _ _ h4'
    have hvref : ∀ k ∈ vksS xs0, ∀ b p, m k = some (b, p) → 0 < p := by
      have keyC : ∀ (cs : List Cell) (us : List Value), CRs m (XA φ m) w cs us → ∀ k ∈ vksL cs, ∀ b p, m k = some (b, p) → 0 < p := by
        intro cs
        induction cs with
        | nil => intro us _ k hk; cases hk
        | cons c cs ih =>
          intro us hc k hk
          cases us with
          | nil => exact hc.elim
          | cons u us =>
            cases c with
            | vref e k0 =>
              simp only [vksL, List.mem_cons] at hk
              rcases hk with rfl | hk
              · obtain ⟨b, p, h1, h2, _⟩ := hc.1
                intro b' p' h3; rw [h1] at h3; cases h3; exact h2
              · exact ih us hc.2 k hk
            | _ => exact ih us hc.2 k hk
      have keyS : ∀ (xs : List SV) (us : List Value), All2 (SR m (XA φ m) w) xs us → ∀ k ∈ vksS xs, ∀ b p, m k = some (b, p) → 0 < p := by
        intro xs
        induction xs with
        | nil => intro us _ k hk; cases hk
        | cons x xs ih =>
          intro us hc k hk
          cases us with
          | nil => exact hc.elim
          | cons u us =>
            simp only [vksS, app_eq, List.mem_append] at hk
            rcases hk with hk | hk
            · exact keyC _ _ (SV.cells_ok hc.1) k hk
            · exact ih us hc.2 k hk
      exact keyS _ _ h2
    have hX0 : NoMore w (Xc φ m (vksS xs0)) φ.X0 := by
      intro b q _ hx
      refine ⟨.inl hx, fun k hk p hp0 hp1 hm => ?_⟩
      obtain ⟨h6, h7, _⟩ := hs.x0 _ _ hx
      cases hb0 : st.box k with
      | none => rw [hs.dom k hb0] at hm; cases hm
      | some bx0 =>
        have hro : bx0.isRo = false := by
          cases bx0 with
          | ro cs =>
            obtain ⟨b2, _, _, h9, _⟩ := hs.box k _ hb0
            rw [hm] at h9; cases h9; omega
          | _ => rfl
        rcases hs.own k bx0 b p hb0 hro hm hp0 with h8 | h8
        · exact h7 h8
        · omega
    refine ⟨y, h, rfl, ?_⟩
    have hres : (results fn a.tmps).run P w = .ok (if h : vs.toArray.size = 1 then vs.toArray[0] else .tuple vs.toArray) w := by
      unfold results
      rw [Sem.run_bind, Array.mapM_eq_mapM_toList]
      have : (List.toArray <$> fn.results.toList.mapM fun x => (match x with | .tmp t => pure (a.tmps.getD t undef) | .cell b t => do loadVar t (← asAddr (a.tmps.getD b undef)) : Sem Value)).run P w = .ok vs.toArray w := by
        rw [map_eq_pure_bind, Sem.run_bind, h1]; rfl
      exact Eq.trans (congrArg (fun q => Result.andThen q _) this) rfl
    refine ⟨_, hres, cv, h5.mono (keeps_refl _ _) hX0 _ _ _, hfresh, ?_⟩
    cases rsh with
    | none =>
      simp only [shapesOf] at h3
      match vs, h3 with | [], _ => rfl
    | one sh =>
      simp only [shapesOf] at h3
      match vs, h3 with
      | [v], h3 => exact h3
      | [], h3 => cases sh <;> cases h3
      | v :: v2 :: r2, h3 =>
        cases sh with
        | none => obtain ⟨_, _, h6⟩ := h3; cases h6
        | some n => obtain ⟨_, _, _, _, _, h6⟩ := h3; cases h6
    | tup ss =>
      simp only [shapesOf] at h3
      have hlen : ∀ (ss : List (Option Nat)) (vs cv : List Value), ShapeR ss vs cv → vs.length = ss.length := by
        intro ss
        induction ss with
        | nil => intro vs cv h; cases vs with | nil => rfl | cons v vs => cases h
        | cons s ss ih =>
          intro vs cv h
          cases vs with
          | nil => cases s <;> cases h
          | cons v vs =>
            cases s with
            | none => obtain ⟨cs', _, h6⟩ := h; simp [ih _ _ h6]
            | some n => obtain ⟨ds, cs', _, _, _, h6⟩ := h; simp [ih _ _ h6]
      have hne1 : ss.length ≠ 1 := by
        intro h6
        match ss, h6 with | [s], _ => exact hnt s rfl
      refine ⟨vs, ?_, h3⟩
      rw [dif_neg (by simpa [hlen _ _ _ h3] using hne1)]
inductive BOut (K X ρ : Type) where
  | next (k : K) (x : X) | brk (k : K) (x : X) | ret (r : ρ)
def readX {ρ₀ : Type} (s : LS ρ₀) (st : ASt) : Option s.X.den :=
  match appO (rdS st s.xs) (rdW st s.xb) with
  | some c => match unvX st s.vecs 0 c, nodup (keysX s.vecs 0 c) with | some c', true => dec s.X c' | _, _ => none
  | none => none
def readK {ρ₀ : Type} (s : LS ρ₀) (st : ASt) : Option s.K.den :=
  match appO (rdS st s.ks) (rdB st s.kb) with
  | some c => match unvL true st c with | some c' => dec s.K c' | none => none
  | none => none
def evRound {ρ₀ : Type} (s : LS ρ₀) (ret : Ex → ASt → Tr ρ₀ ρ₀) (x : Ex) (st : ASt) : Tr ρ₀ (BOut s.K.den s.X.den ρ₀) :=
  match x with
  | .normal => match readK s st, readX s st, andd (chkN s) (chkP st [] (firsts s.xs) (app (firsts s.xb) (firsts s.kb)) s.ptrs) with | some k, some y, true => .ret (.next k y) | _, _, _ => .bad
  | .exit id => match readK s st, readX s st, andd (chkN s) (chkP st [] (firsts s.xs) (app (firsts s.xb) (firsts s.kb)) s.ptrs) with | some k, some y, true => cnd (Nat.beq id s.exit) (.ret (.brk k y)) .bad | _, _, _ => .bad
  | .ret => match ret .ret st with | .ret r => .ret (.ret r) | _ => .bad
  | .pan v => match ret (.pan v) st with | .ret r => .ret (.ret r) | _ => .bad
def RoundOk {ρ₀ : Type} (s : LS ρ₀) (μ : s.K.den → s.X.den → Nat) (kv : s.K.den) (xv : s.X.den) : BOut s.K.den s.X.den ρ₀ → Prop
  | .next k y => k = kv ∧ (∀ p, s.inv = some p → p kv y) ∧ μ kv y < μ kv xv ∧ s.G kv y = s.G kv xv ∧ (∀ R, s.R = some R → R kv y = R kv xv)
  | .brk k y => k = kv ∧ s.G kv xv = y ∧ (∀ R, s.R = some R → R kv xv = none)
  | .ret r => ∃ R, s.R = some R ∧ R kv xv = some r
theorem tmpl_plain {ρ₀ : Type} {s : LS ρ₀} {kc xc : List Cell} : Plain (tmpl s kc xc) := by
  intro t g h
  have hsl : ∀ (l : List (Nat × Option Nat)) (cs : List Cell), slotsOf l cs t = some g → g.tags = [] := by
    intro l
    induction l with
    | nil => intro cs h; cases h
    | cons p r ih =>
      obtain ⟨u, sh⟩ := p
      intro cs h
      cases sh with
      | none =>
        cases cs with
        | nil => exact ih [] h
        | cons c cs =>
          simp only [slotsOf] at h
          by_cases hut : t = u
          · rw [cnd_beq_true hut] at h; cases h; rfl
          · rw [cnd_beq_false hut] at h; exact ih cs h
      | some n =>
        simp only [slotsOf] at h
        by_cases hut : t = u
        · rw [cnd_beq_true hut] at h; cases h; rfl
        · rw [cnd_beq_false hut] at h; exact ih _ h
  rcases orE_some h with h | ⟨_, h⟩
  · obtain ⟨k, _, rfl⟩ := ptrsOf_some h; rfl
  · rcases orE_some h with h | ⟨_, h⟩
    · exact hsl _ _ h
    · exact hsl _ _ h
theorem read_retmpl {ρ₀ : Type} {s : LS ρ₀} (hs : SatM φ ν m st a w) {kv : s.K.den} {xv : s.X.den} (hk : readK s st = some kv) (hx : readX s st = some xv)
    (hc : andd (chkN s) (chkP st [] (firsts s.xs) (app (firsts s.xb) (firsts s.kb)) s.ptrs) = true) : Fit s.X xv ∧ Sat φ ν0 (tmpl s (enc s.K kv) (enc s.X xv)) a w := by
  obtain ⟨hN, hc⟩ := andd_true hc
  unfold readK at hk
  unfold readX at hx
  split at hk
  case h_2 => cases hk
  rename_i kc0 hkc
  split at hk
  case h_2 => cases hk
  rename_i kc hku
  split at hx
  case h_2 => cases hx
  rename_i xc0 hxc
  split at hx
  case h_2 => cases hx
  rename_i xc hxu hnd
  obtain ⟨_, h2, m', hv, _⟩ := tmpl_view hs hkc hxc hc hN hku hxu hnd hk hx
  exact ⟨h2, m', hv.sat hs⟩
theorem loop_ok (hC : CtxOk P C) {ρ₀ : Type} {Ret : Exit → Nat → (Nat → Nat → Prop) → ρ₀ → Act → World → Prop} {L : Nat → Option (LS ρ₀)} {body : Code} {s : LS ρ₀} {ret : Ex → ASt → Tr ρ₀ ρ₀}
    (hmono : ∀ e n X X' r a w, (∀ b p, X' b p → X b p) → Ret e n X r a w → Ret e n X' r a w)
    (hret : ∀ (φ : Fr) x st a w r, (x = .ret ∨ ∃ v, x = .pan v) → Sat φ ν0 st a w → ret x st = .ret r → Ret (exOf x) φ.n0 φ.X0 r a w)
    (hL : ∀ b ∈ loopsIn body, ∀ s', L (codeId b) = some s' → LoopOk P C.G Ret b s')
    (μ : s.K.den → s.X.den → Nat)
    (round : ∀ kv xv, Fit s.K kv → Fit s.X xv → (∀ p, s.inv = some p → p kv xv) → (evCode C L body (tmpl s (enc s.K kv) (enc s.X xv)) (evRound s ret)).All BOut.ret (RoundOk s μ kv xv)) :
    LoopOk P C.G Ret body s := by
  intro kv xv φ a w hφ hinv hfK hfX hD hs
  refine wp_loop_ghost (fun n a w => ∃ x, n = μ kv x ∧ Fit s.X x ∧ (∀ p, s.inv = some p → p kv x) ∧ s.G kv x = s.G kv xv ∧ (∀ R, s.R = some R → R kv x = R kv xv) ∧ Sat φ ν0 (tmpl s (enc s.K kv) (enc s.X x)) a w)
    (μ kv xv) ⟨xv, rfl, hfX, hinv, rfl, fun _ _ => rfl, hs⟩ ?_
  rintro n a w ⟨x, rfl, hf, hi, hG, hR, hs⟩
  refine evCode_ok (φ := φ) hC hφ hmono body _ _ _ a w tmpl_plain hs hD hL (round kv x hfK hf hi) (fun e st' a' w' hp' hs' hA => ?_) (fun e he r a' w' hp hr hk hd => ?_)
  · obtain ⟨m', hm'⟩ := hs'
    cases e with
    | normal =>
      simp only [evRound] at hA
      split at hA
      case h_2 => exact hA.elim
      rename_i k y hk hy hc
      obtain ⟨rfl, h2, h3, h4, h5⟩ := hA
      exact ⟨_, h3, y, rfl, (read_retmpl hm' hk hy hc).1, h2, h4.trans hG, fun R hRR => (h5 R hRR).trans (hR R hRR), (read_retmpl hm' hk hy hc).2⟩
    | exit id =>
      simp only [evRound] at hA
      split at hA
      case h_2 => exact hA.elim
      rename_i k y hk hy hc
      cases hid : Nat.beq id s.exit with
      | false => rw [hid] at hA; exact hA.elim
      | true =>
        rw [hid] at hA
        obtain ⟨rfl, h2, h3⟩ := hA
        refine ⟨beq_eq hid, fun R hRR => by rw [← hR R hRR]; exact h3 R hRR, ?_⟩
        rw [← hG, h2]
        exact (read_retmpl hm' hk hy hc).2
    | ret =>
      simp only [evRound] at hA
      split at hA
      case h_2 => exact hA.elim
      rename_i r hr
      obtain ⟨R, h1, h2⟩ := hA
      exact ⟨.inl rfl, R, r, h1, by rw [← hR R h1]; exact h2, hret φ .ret st' a' w' r (.inl rfl) ⟨m', hm'⟩ hr, hm'.keepW, hm'.keepA⟩
    | pan v =>
      simp only [evRound] at hA
      split at hA
      case h_2 => exact hA.elim
      rename_i r hr
      obtain ⟨R, h1, h2⟩ := hA
      exact ⟨.inr ⟨v, rfl⟩, R, r, h1, by rw [← hR R h1]; exact h2, hret φ (.pan v) st' a' w' r (.inr ⟨v, rfl⟩) ⟨m', hm'⟩ hr, hm'.keepW, hm'.keepA⟩
  · obtain ⟨R, h1, h2⟩ := hp
    have hq : IsOut e ∧ ∃ R r, s.R = some R ∧ R kv xv = some r ∧ Ret e φ.n0 φ.X0 r a' w' ∧ KeepW φ w' ∧ KeepA φ a' := ⟨he, R, r, h1, by rw [← hR R h1]; exact h2, hr, hk, hd⟩
    rcases he with rfl | ⟨v, rfl⟩ <;> exact hq
theorem all_of_safe {ρ₀ ρ : Type} {rt : ρ₀ → ρ} {d : ρ} : ∀ {t : Tr ρ₀ ρ}, t.safe → t.All rt fun r => r = t.val rt d
  | .ret r, _ => rfl
  | .ite c t e, h => by
    refine ⟨fun hc => ?_, fun hc => ?_⟩
    · subst hc; exact all_of_safe (h.1 rfl)
    · subst hc; exact all_of_safe (h.2 rfl)
  | .need p t, h => ⟨h.1, all_of_safe h.2⟩
  | .opt o t, h => by
    refine ⟨fun r hr => by subst hr; rfl, fun hn => ?_⟩
    subst hn
    exact all_of_safe (h rfl)
  | .bad, h => h.elim
theorem All.mono {ρ₀ ρ : Type} {rt : ρ₀ → ρ} {Post Post' : ρ → Prop} (hp : ∀ r, Post r → Post' r) : ∀ {t : Tr ρ₀ ρ}, t.All rt Post → t.All rt Post'
  | .ret r, h => hp r h
  | .ite c t e, h => ⟨fun hc => All.mono hp (h.1 hc), fun hc => All.mono hp (h.2 hc)⟩
  | .need p t, h => ⟨h.1, All.mono hp h.2⟩
  | .opt o t, h => ⟨fun r hr => hp _ (h.1 r hr), fun hn => All.mono hp (h.2 hn)⟩
  | .bad, h => h.elim
theorem initSlots_ok {X : Nat → Nat → Prop} : ∀ {vs : List SV} {us : List Value} {i t : Nat} {g : GS}, All2 (SR m X w) vs us → initSlots vs i t = some g → g.tags = [] ∧ ∃ u, us[t - i]? = some u ∧ i ≤ t ∧ VR m X w g.tv u
  | [], us, i, t, g, _, h => by cases h
  | v :: r, u :: us, i, t, g, ha, h => by
    simp only [initSlots] at h
    by_cases hti : t = i
    · rw [cnd_beq_true hti] at h
      cases h
      subst hti
      exact ⟨rfl, u, by simp, Nat.le_refl _, ha.1⟩
    · rw [cnd_beq_false hti] at h
      obtain ⟨h1, u', h2, h3, h4⟩ := initSlots_ok ha.2 h
      have h3 : i + 1 ≤ t := h3
      refine ⟨h1, u', ?_, by omega, h4⟩
      have h2 : us[t - (i + 1)]? = some u' := h2
      rw [show t - i = (t - (i + 1)) + 1 by omega]
      simpa using h2
  | _ :: _, [], _, _, _, ha, _ => ha.elim
theorem fn_ok (hC : CtxOk P C) {f : FuncId} {fn : Func} (hf : P.funcs[f]? = some fn) {ct : Ct} {L : Nat → Option (LS ct.r.den)} {c : Code} (hb : fn.body = some c) {dflt : ct.r.den}
    (hL : ∀ body ∈ loopsIn c, ∀ s, L (codeId body) = some s → LoopOk P C.G (RetAt P fn ct.rsh ct.fresh ct.r) body s)
    (hsafe : ∀ x, Fit ct.p x → (∀ q, ct.pre = some q → q x) → (evFn C fn ct.p ct.psh ct.rsh ct.fresh ct.r L x).safe)
    (hval : ∀ x, (evFn C fn ct.p ct.psh ct.rsh ct.fresh ct.r L x).val (fun y => y) dflt = ct.F x) : CtOk P C.G f ct := by
  intro x w X args cs hH hX hpre hsh hx
  have hA := all_of_safe (rt := fun y => y) (d := dflt) (hsafe x (fit_of hx) hpre)
  rw [hval] at hA
  unfold evFn at hA
  rw [hb] at hA
  split at hA
  case h_2 => exact hA.elim
  rename_i c' vs hc' hvs
  cases hc'
  cases hck : allB (fun d => Nat.ble (Nat.succ d) fn.ntmps) (dsts c) with
  | false => rw [hck] at hA; exact hA.elim
  | true =>
    rw [hck] at hA
    simp only [cnd] at hA
    let m : Map := fun _ => none
    let a0 : Act := { tmps := args ++ Array.replicate (fn.ntmps - args.size) undef, defers := [] }
    let φ : Fr := { n := a0.tmps.size, w0 := w, a0 := a0, B := fun _ => False, D := fun _ => true, X0 := X, n0 := w.heap.size, base := w, gl := C.G.gl }
    have hXA : XA φ m = X := by
      funext b p
      refine propext ⟨fun h => ?_, fun h => .inl h⟩
      rcases h with h | ⟨k, p0, h1, _⟩
      · exact h
      · cases h1
    have hall : All2 (SR m (XA φ m) w) vs args.toList := by rw [hXA]; exact unshape_ok hvs hsh (enc_ok hx)
    have hslot : ∀ t g, initSlots vs 0 t = some g → g.tags = [] ∧ VR m (XA φ m) w g.tv (a0.tmps.getD t undef) := by
      intro t g hg
      obtain ⟨h1, u, h2, _, h4⟩ := initSlots_ok hall hg
      refine ⟨h1, ?_⟩
      have : a0.tmps.getD t undef = u := by
        rw [Nat.sub_zero, Array.getElem?_toList] at h2
        show (args ++ _).getD t undef = u
        have hlt : t < args.size := (Array.getElem?_eq_some_iff.1 h2).1
        rw [Array.getD_eq_getD_getElem?, Array.getElem?_append_left hlt, h2]
        rfl
      rw [this]; exact h4
    have hsat : SatM φ ν0 m { slot := fun t => initSlots vs 0 t, box := fun _ => none } a0 w := {
      tmps := rfl
      defers := rfl
      slot := fun t g hg _ => (hslot t g hg).2
      skip := fun t g hg ht => absurd (by rw [(hslot t g hg).1]; intro x hx; cases hx) ht
      box := fun k bx hk => by cases hk
      inj := fun k k' b p p' h => by cases h
      low := fun k b p h => by cases h
      dom := fun _ _ => rfl
      own := fun k bx b p h => by cases h
      vn := fun k b p h => by cases h
      ngl := fun k b p h => by cases h
      n0 := Nat.le_refl _
      glob := GK.refl fun b hb => C.G.low hH hb
      old := ⟨rfl, rfl, rfl, Nat.le_refl _⟩
      keep := fun _ _ _ => rfl
      keepS := fun _ _ => ⟨rfl, fun _ => rfl⟩
      x0 := fun b p h => ⟨(hX b p h).1, fun hf => hf, (hX b p h).2⟩
      keepT := fun t ht => by cases ht }
    have hfin : ∀ a' w', KeepW φ w' → a'.defers = [] → RetAt P fn ct.rsh ct.fresh ct.r .ret w.heap.size X (ct.F x) a' w' → bodyPost P fn (fun e w' => ∃ v, e = .returned v ∧ Below w.heap.size w w' ∧ RetF w.heap.size ct.fresh w' X ct.rsh ct.r (ct.F x) v) .ret a' w' := by
      intro a' w' hk hd ⟨_, v, hr, hrr⟩
      exact ⟨hd, v, hr, v, rfl, ⟨hk.old.1, hk.old.2.1, hk.old.2.2.1, hk.old.2.2.2, fun k hk' => hk.keep k hk' (fun h => h)⟩, hrr⟩
    refine calls_of_wp hf hb (evCode_ok (φ := φ) (Ret := RetAt P fn ct.rsh ct.fresh ct.r) hC ⟨hH, rfl⟩ (fun e n X X' r a w h hr => hr.mono h) c _ _ _ a0 w (fun t g hg => (hslot t g hg).1) ⟨m, hsat⟩
      (fun d hd => ⟨?_, rfl⟩) hL hA (fun e st' a' w' hp' ⟨m', hm'⟩ hA' => ?_) (fun e he r a' w' hp hr hk hd => ?_))
    · have := Nat.le_of_ble_eq_true (allB_spec hck d hd)
      show d < (args ++ Array.replicate (fn.ntmps - args.size) undef).size
      simp
      omega
    · obtain ⟨hne, hnp, y, rfl, hr⟩ := evRet_ok hC hm' hA'
      cases e with
      | exit id => exact absurd rfl (hne id)
      | pan v => exact absurd rfl (hnp v)
      | normal => exact hfin a' w' hm'.keepW hm'.defers hr
      | ret => exact hfin a' w' hm'.keepW hm'.defers hr
    · have hp : r = ct.F x := hp
      subst hp
      have he' := hr.1
      subst he'
      exact hfin a' w' hk hd.1 hr
end
end Go.Proofs.Ytbnihoioblmgkaa.Sy
end

section
/- Tables of types for the evaluator, and equality of structs (own work). -/
namespace Go.Proofs.Ytbnihoioblmgkaa.Sy
open Go Go.RowKit
set_option linter.unusedVariables false
set_option linter.unusedSimpArgs false
theorem infoOk_mk {P : Program} {t : TypeId} {ty : Ty} {ag : Bool} (h : (P.info? t).map (fun i => (i.size, i.zero)) = some (ty.n, some (mkV ag (zeroVs ty)))) : InfoOk P t ty ag := by
  rw [Option.map_eq_some_iff] at h
  obtain ⟨i, h1, h2⟩ := h
  cases h2' : i.zero with
  | none => simp [h2'] at h2
  | some z => simp only [h2', Prod.mk.injEq, Option.some.injEq] at h2; exact ⟨i, h1, h2.1, by rw [h2', h2.2]⟩
theorem tdOk_mk {P : Program} {t : TypeId} {d : TD} {e : TypeDesc} (hu : P.underlying t = some e) (hi : InfoOk P t d.ty d.agg)
    (hagg : d.agg = (match e with | .struct _ => true | .array _ _ => true | _ => false)) (hk : kindOk P d e) (hp : d.agg = false → plainOk d.ty e) (h1 : d.agg = false → d.ty.n = 1) : TDOk P t d where
  info := hi
  desc := ⟨e, hu, hk, hp⟩
  isAgg := by
    intro w
    unfold isAgg
    rw [Sem.run_bind, run_underlying hu, Result.andThen_ok, hagg]
    cases e <;> rfl
  one := h1
theorem all_info {P : Program} {fs : List (Nat × Nat)} (h : (fs.all fun p => (P.info? p.1).isSome) = true) : ∀ p ∈ fs, ∃ i, P.info? p.1 = some i := by
  intro p hp
  have := List.all_eq_true.1 h p hp
  exact Option.isSome_iff_exists.1 this
def lookupD : List (Nat × TD) → Nat → Option TD
  | [], _ => none
  | (i, d) :: r, t => cnd (Nat.beq t i) (some d) (lookupD r t)
theorem lookupD_mem : ∀ {l : List (Nat × TD)} {t : Nat} {d : TD}, lookupD l t = some d → (t, d) ∈ l
  | [], _, _, h => by cases h
  | (i, d') :: r, t, d, h => by
    simp only [lookupD] at h
    by_cases hti : t = i
    · rw [cnd_beq_true hti] at h; cases h; subst hti; simp
    · rw [cnd_beq_false hti] at h; exact List.mem_cons_of_mem _ (lookupD_mem h)
theorem bytes_mk {P : Program} {t : TypeId} {n : Nat} (h : (P.info? t).map (·.bytes) = some n) : ∀ i, P.info? t = some i → i.bytes = n := by
  intro i hi
  rw [hi] at h
  simpa using h
def lookXt : List (Nat × Xt) → Nat → Option Xt
  | [], _ => none
  | (i, x) :: r, t => cnd (Nat.beq t i) (some x) (lookXt r t)
theorem lookXt_cons {P : Program} {f : Nat} {x : Xt} {l : List (Nat × Xt)} (h1 : XtOk P f x) (h : ∀ g y, lookXt l g = some y → XtOk P g y) : ∀ g y, lookXt ((f, x) :: l) g = some y → XtOk P g y := by
  intro g y hg
  simp only [lookXt] at hg
  by_cases hgf : g = f
  · rw [cnd_beq_true hgf] at hg; cases hg; subst hgf; exact h1
  · rw [cnd_beq_false hgf] at hg; exact h g y hg
def gdNone : Gd := { H := fun _ => True, gl := fun _ => False, mono := fun _ _ => trivial, low := fun _ h => h.elim }
def EqT (P : Program) (dd : Nat) (t : TypeId) (ty : Ty) (ag : Bool) : Prop :=
  ∀ (m : Map) (X : Nat → Nat → Prop) (w : World) (xs ys : List Cell) (r : Bool) (us vs : List Value), eqTy ty xs ys = some r → CRs m X w xs us → CRs m X w ys vs →
    (Op.equalIn dd t (mkV ag us) (mkV ag vs)).run P w = .ok r w
theorem eqT_int {P : Program} {t : TypeId} {k : IntKind} (hu : P.underlying t = some (.int k)) (dd : Nat) : EqT P (dd + 1) t (.int k) false := by
  intro m X w xs ys r us vs he hx hy
  unfold eqTy at he
  split at he
  case h_2 => cases he
  rename_i k1 a k2 b
  obtain ⟨hk, he2⟩ := cnd_some he
  obtain ⟨h1, h2⟩ := andd_true hk
  simp only [Option.some.injEq] at he2
  subst he2
  match us, vs, hx, hy with
  | [u], [v], hx, hy =>
    have h3 : u = .int k1 a := hx.1
    have h4 : v = .int k2 b := hy.1
    rw [← keq_eq h1] at h3
    rw [← keq_eq h2] at h4
    simp only [mkV, Bool.false_eq_true, if_false, List.headD_cons, h3, h4]
    exact run_equalIn_int w dd t k k a b hu
theorem eqT_bool {P : Program} {t : TypeId} (hu : P.underlying t = some .bool) (dd : Nat) : EqT P (dd + 1) t .bool false := by
  intro m X w xs ys r us vs he hx hy
  unfold eqTy at he
  split at he
  case h_2 => cases he
  rename_i a b
  simp only [Option.some.injEq] at he
  subst he
  match us, vs, hx, hy with
  | [u], [v], hx, hy =>
    have h3 : u = .bool a := hx.1
    have h4 : v = .bool b := hy.1
    simp only [mkV, Bool.false_eq_true, if_false, List.headD_cons, h3, h4]
    exact run_bool_in hu dd a b
def FieldsOk (P : Program) (dd : Nat) : List Field → Ty → Nat → Prop
  | [], _, _ => False
  | [f], ty, off => f.name ≠ "_" ∧ f.offset = off ∧ ∃ d, TDOk P f.type d ∧ d.ty = ty ∧ EqT P dd f.type d.ty d.agg
  | f :: fs, .pair a b, off => f.name ≠ "_" ∧ f.offset = off ∧ (∃ d, TDOk P f.type d ∧ d.ty = a ∧ EqT P dd f.type d.ty d.agg) ∧ FieldsOk P dd fs b (Nat.add off a.n)
  | _, _, _ => False
theorem eqTy_len : ∀ {ty : Ty} {xs ys : List Cell} {r : Bool}, eqTy ty xs ys = some r → xs.length = ty.n ∧ ys.length = ty.n := by
  intro ty
  induction ty with
  | int k =>
    intro xs ys r h
    unfold eqTy at h
    split at h
    · exact ⟨rfl, rfl⟩
    · cases h
  | bool =>
    intro xs ys r h
    unfold eqTy at h
    split at h
    · exact ⟨rfl, rfl⟩
    · cases h
  | pair a b iha ihb =>
    intro xs ys r h
    unfold eqTy at h
    split at h
    · rename_i h1 h2
      have h3 := iha h1
      have h4 := ihb h2
      simp only [List.length_take, List.length_drop] at h3 h4
      simp only [Ty.n, Nat.add_eq]
      omega
    · cases h
  | _ => intro xs ys r h; unfold eqTy at h; cases h
theorem eq_fields {P : Program} {dd : Nat} {m : Map} {X : Nat → Nat → Prop} {w : World} (us vs : Array Value) : ∀ (fs : List Field) (ty : Ty) (off : Nat) (xs ys : List Cell) (r : Bool), FieldsOk P dd fs ty off → eqTy ty xs ys = some r →
    CRs m X w xs (us.toList.drop off) → CRs m X w ys (vs.toList.drop off) → (Op.eqFields dd us vs fs).run P w = .ok r w := by
  intro fs
  induction fs with
  | nil => intro ty off xs ys r h; exact h.elim
  | cons f fs ih =>
    have step : ∀ (off : Nat) (d : TD) (xs ys : List Cell) (r : Bool), TDOk P f.type d → EqT P dd f.type d.ty d.agg → f.name ≠ "_" → f.offset = off → eqTy d.ty xs ys = some r →
        CRs m X w xs ((us.toList.drop off).take d.ty.n) → CRs m X w ys ((vs.toList.drop off).take d.ty.n) →
        (Op.eqFields dd us vs (f :: fs)).run P w = if r = true then (Op.eqFields dd us vs fs).run P w else .ok false w := by
      intro off d xs ys r hT hE hn ho he hx hy
      have hl := eqTy_len he
      have hxl := hx.length
      have hyl := hy.length
      simp only [List.length_take, List.length_drop, Array.length_toList] at hxl hyl
      by_cases hz : d.ty.n = 0
      · -- no cells: such a type has no equality
        exfalso
        have : ∀ (ty : Ty) (xs ys : List Cell) (r : Bool), eqTy ty xs ys = some r → 0 < ty.n := by
          intro ty
          induction ty with
          | int k => intro _ _ _ _; exact Nat.one_pos
          | bool => intro _ _ _ _; exact Nat.one_pos
          | pair a b iha ihb =>
            intro xs ys r h
            unfold eqTy at h
            split at h
            · rename_i h1 h2; have := iha _ _ _ h1; simp only [Ty.n, Nat.add_eq]; omega
            · cases h
          | _ => intro xs ys r h; unfold eqTy at h; cases h
        have := this _ _ _ _ he
        omega
      simp only [Op.eqFields, hn, ne_eq, not_false_eq_true, if_true, Sem.run_bind, ho]
      rw [run_part hT (by omega), Result.andThen_ok, run_part hT (by omega), Result.andThen_ok, hE m X w xs ys r _ _ he hx hy, Result.andThen_ok]
      cases r <;> simp
    intro ty off xs ys r h he hx hy
    match fs, ty, h, ih, step with
    | [], ty, h, ih, step =>
      obtain ⟨hn, ho, d, hT, rfl, hE⟩ := h
      have hl := eqTy_len he
      have hx' := All2.take d.ty.n hx
      have hy' := All2.take d.ty.n hy
      rw [List.take_of_length_le (by omega)] at hx' hy'
      rw [step off d xs ys r hT hE hn ho he hx' hy']
      cases r <;> simp [Op.eqFields]
    | f2 :: fs, .pair a b, h, ih, step =>
      obtain ⟨hn, ho, ⟨d, hT, rfl, hE⟩, hrest⟩ := h
      unfold eqTy at he
      split at he
      case h_2 => cases he
      rename_i r1 r2 h1 h2
      simp only [Option.some.injEq] at he
      subst he
      rw [step off d _ _ r1 hT hE hn ho h1 (All2.take _ hx) (All2.take _ hy)]
      cases r1 with
      | false => simp
      | true =>
        have hx' := All2.drop d.ty.n hx
        have hy' := All2.drop d.ty.n hy
        rw [List.drop_drop] at hx' hy'
        simpa using ih b (off + d.ty.n) _ _ r2 hrest h2 hx' hy'
    | f2 :: fs, .int k, h, _, _ => exact h.elim
    | f2 :: fs, .bool, h, _, _ => exact h.elim
    | f2 :: fs, .flt k, h, _, _ => exact h.elim
    | f2 :: fs, .str, h, _, _ => exact h.elim
    | f2 :: fs, .unit, h, _, _ => exact h.elim
    | f2 :: fs, .sl e, h, _, _ => exact h.elim
theorem eqT_struct {P : Program} {t : TypeId} {fds : Array Field} {ty : Ty} (hu : P.underlying t = some (.struct fds)) (hp : P.stoodInHeld t = false) {dd : Nat} (hf : FieldsOk P dd fds.toList ty 0) : EqT P (dd + 1) t ty true := by
  intro m X w xs ys r us vs he hx hy
  have hfo : P.fieldsOf t = fds := by unfold Program.fieldsOf; rw [hu]
  simp only [mkV, if_true]
  rw [run_equalIn_struct w dd t us.toArray vs.toArray (by rw [hfo]; exact hu) hp, hfo]
  exact eq_fields us.toArray vs.toArray fds.toList ty 0 xs ys r hf he (by simpa using hx) (by simpa using hy)
theorem eqFact {P : Program} {t : TypeId} {ty : Ty} (h : EqT P 10000 t ty true) (hg : P.eqGuardType P.depth t = false) (m : Map) (X : Nat → Nat → Prop) (w : World) (xs ys : List Cell) (r : Bool) (us vs : List Value)
    (he : eqTy ty xs ys = some r) (hx : CRs m X w xs us) (hy : CRs m X w ys vs) :
    (eqGuard .eql t (.tmp 0) (.tmp 0) (.agg us.toArray) (.agg vs.toArray) >>= fun _ => binOp .eql t (.agg us.toArray) (.agg vs.toArray)).run P w = .ok (.bool r) w ∧
    (eqGuard .neq t (.tmp 0) (.tmp 0) (.agg us.toArray) (.agg vs.toArray) >>= fun _ => binOp .neq t (.agg us.toArray) (.agg vs.toArray)).run P w = .ok (.bool (!r)) w := by
  have h1 := h m X w xs ys r us vs he hx hy
  simp only [mkV, if_true] at h1
  constructor
  · rw [Sem.run_bind, run_eqGuard_agg w _ _ _ _ _ _ hg, Result.andThen_ok, run_eql_struct, h1]; rfl
  · rw [Sem.run_bind, run_eqGuard_agg w _ _ _ _ _ _ hg, Result.andThen_ok, run_neq_struct, h1]; rfl
end Go.Proofs.Ytbnihoioblmgkaa.Sy
end

section
/- The symbolic evaluator is sound: functions that are given pointers (own work). -/
namespace Go.Proofs.Ytbnihoioblmgkaa.Sy
open Go Go.RowKit
set_option linter.unusedVariables false
set_option linter.unusedSimpArgs false
def selfs : List (Nat × Nat) → List (Nat × Nat)
  | [] => [] | (k, _) :: r => (k, k) :: selfs r
def posIn : List Bool → Nat → List Nat
  | [], _ => [] | true :: m, i => i :: posIn m (Nat.succ i) | false :: m, i => posIn m (Nat.succ i)
def insP : List Bool → Nat → List SV → List SV
  | [], _, _ => []
  | true :: m, i, vs => .one (.box i 0) :: insP m (Nat.succ i) vs
  | false :: m, i, v :: vs => v :: insP m (Nat.succ i) vs
  | false :: _, _, [] => []
def evRetP (C : Ctx) (fn : Func) (rsh : Rsh) (r q : Ty) (ro : Bool) (ptr : List (Nat × Nat)) (x : Ex) (st : ASt) : Tr Unit (r.den × q.den) :=
  match x, rsh with
  | .exit _, _ => .bad
  | .pan _, _ => .bad
  | _, .tup [_] => .bad
  | _, _ => match resCells C fn st fn.results.toList with
    | some xs0 => match unvSs false st xs0, cnd ro (rdR st ptr) (rdW st ptr), chkP st [] [] (firsts ptr) (selfs ptr) with
      | some xs, some qc0, true => match shapes (shapesOf rsh) xs, unvL true st qc0 with
        | some cs, some qc => match dec r cs, dec q qc with | some y, some z => .ret (y, z) | _, _ => .bad
        | _, _ => .bad
      | _, _, _ => .bad
    | none => .bad
def evFnP (C : Ctx) (fn : Func) (p : Ty) (psh : List (Option Nat)) (mask : List Bool) (sz : List Nat) (ro ex : Bool) (q : Ty) (rsh : Rsh) (r : Ty) (L : Nat → Option (LS Unit)) (x : p.den) : Tr Unit (r.den × q.den) :=
  match fn.body, unshape psh (exC ex ((enc p x).take (Nat.sub p.n (sumN sz)))) with
  | some c, some vs => cnd (andd (allB (fun d => Nat.ble (Nat.succ d) fn.ntmps) (dsts c)) (andd (allB (fun d => nott (mem d (posIn mask 0))) (dsts c)) (Nat.beq (lenL (posIn mask 0)) (lenL sz))))
      (evCode C L c { slot := fun t => initSlots (insP mask 0 vs) 0 t, box := boxesOf (cnd ro .ro .cells) (zipN (posIn mask 0) sz) ((enc p x).drop (Nat.sub p.n (sumN sz))) } (evRetP C fn rsh r q ro (zipN (posIn mask 0) sz))) .bad
  | _, _ => .bad
section
variable {φ : Fr} {ν ν' : Nat → Bool} {m : Map} {st : ASt} {a : Act} {w w' : World} {own : List (Nat × Bool)} {W : List Nat} {P : Program} {C : Ctx} {o : Oper} {e : Eff}
  {K : Act → World → Prop}
theorem selfs_mem : ∀ {l : List (Nat × Nat)} {k : Nat}, k ∈ firsts l → (k, k) ∈ selfs l
  | (k, n) :: r, j, h => by
    simp only [firsts, List.mem_cons] at h
    rcases h with rfl | h
    · simp [selfs]
    · simp [selfs, selfs_mem h]
theorem evRetP_ok (hC : CtxOk P C) (hs : SatM φ ν m st a w) {fn : Func} {rsh : Rsh} {r q : Ty} {ro : Bool} {ptr : List (Nat × Nat)} {x : Ex} {rt : Unit → r.den × q.den} {Post : r.den × q.den → Prop} (h : (evRetP C fn rsh r q ro ptr x st).All rt Post) :
    (∀ id, x ≠ .exit id) ∧ (∀ v, x ≠ .pan v) ∧ ∃ y z ks, Post (y, z) ∧ (∃ v cv, (results fn a.tmps).run P w = .ok v w ∧ TR w (Xc φ m ks) r y cv ∧ ShapeV rsh cv v) ∧
      (∃ qv, BoxVals m w ptr qv ∧ TR w (XA φ m) q z qv) ∧ (∀ k ∈ firsts ptr, ∃ b, m k = some (b, 0) ∧ a.tmps.getD k undef = .pointer (some ⟨b, 0, none⟩)) := by
  unfold evRetP at h
  split at h
  · exact h.elim
  · exact h.elim
  · exact h.elim
  · rename_i hne hnp hnt
    refine ⟨fun id hx => hne id hx, fun v hx => hnp v hx, ?_⟩
    split at h
    case h_2 => exact h.elim
    rename_i xs0 hxs0
    split at h
    case h_2 => exact h.elim
    rename_i xs qc0 hxs hqc0 hchk
    split at h
    case h_2 => exact h.elim
    rename_i cs qc hcs hqc
    split at h
    case h_2 => exact h.elim
    rename_i y z hy hz
    obtain ⟨vs, h1, h2⟩ := run_mapM_results hC hs hxs0
    have h2' := unvSs_ok hs hxs h2 (ks := vksS xs0) (fun _ k hk => hk)
    obtain ⟨cv, h3, h4⟩ := shapes_ok hcs h2'
    obtain ⟨qv, hbv, hqr⟩ : ∃ qv, BoxVals m w ptr qv ∧ CRs m (XA φ m) w qc0 qv := by
      cases hro : ro with
      | true => rw [hro] at hqc0; obtain ⟨qv, g1, g2⟩ := rdR_ok hs hqc0; exact ⟨qv, g1, g2⟩
      | false => rw [hro] at hqc0; obtain ⟨qv, g1, g2, _⟩ := rdW_ok hs hqc0; exact ⟨qv, g1, g2⟩
    have hqr2 := unvL_ok hs hqc hqr (ks := []) (fun h => by cases h)
    have hX0 : Xc φ m [] = XA φ m := by funext b q; simp [Xc]
    rw [hX0] at hqr2
    have hP := chkP_spec hchk
    refine ⟨y, z, vksS xs0, h, ?_, ⟨qv, hbv, dec_ok hz hqr2⟩, fun k hk => ?_⟩
    · have hres : (results fn a.tmps).run P w = .ok (if h : vs.toArray.size = 1 then vs.toArray[0] else .tuple vs.toArray) w := by
        unfold results
        rw [Sem.run_bind, Array.mapM_eq_mapM_toList]
        have : (List.toArray <$> fn.results.toList.mapM fun x => (match x with | .tmp t => pure (a.tmps.getD t undef) | .cell b t => do loadVar t (← asAddr (a.tmps.getD b undef)) : Sem Value)).run P w = .ok vs.toArray w := by
          rw [map_eq_pure_bind, Sem.run_bind]
          exact (congrArg (fun q => Result.andThen q (fun a w' => Sem.run P (pure a.toArray) w')) h1).trans rfl
        exact Eq.trans (congrArg (fun q => Result.andThen q _) this) rfl
      refine ⟨_, cv, hres, dec_ok hy h4, ?_⟩
      cases rsh with
      | none =>
        simp only [shapesOf] at h3
        match vs, h3 with | [], _ => rfl
      | one sh =>
        simp only [shapesOf] at h3
        match vs, h3 with
        | [v], h3 => exact h3
        | [], h3 => cases sh <;> cases h3
        | v :: v2 :: r2, h3 =>
          cases sh with
          | none => obtain ⟨_, _, h6⟩ := h3; cases h6
          | some n => obtain ⟨_, _, _, _, _, h6⟩ := h3; cases h6
      | tup ss =>
        simp only [shapesOf] at h3
        have hlen : ∀ (ss : List (Option Nat)) (vs cv : List Value), ShapeR ss vs cv → vs.length = ss.length := by
          intro ss
          induction ss with
          | nil => intro vs cv h; cases vs with | nil => rfl | cons v vs => cases h
          | cons s ss ih =>
            intro vs cv h
            cases vs with
            | nil => cases s <;> cases h
            | cons v vs =>
              cases s with
              | none => obtain ⟨cs', _, h6⟩ := h; simp [ih _ _ h6]
              | some n => obtain ⟨ds, cs', _, _, _, h6⟩ := h; simp [ih _ _ h6]
        have hne1 : ss.length ≠ 1 := by
          intro h6
          match ss, h6 with | [s], _ => exact hnt s rfl
        refine ⟨vs, ?_, h3⟩
        rw [dif_neg (by simpa [hlen _ _ _ h3] using hne1)]
    · obtain ⟨g1, _, _, _⟩ := hP k k (selfs_mem hk)
      obtain ⟨b, g2, g3⟩ := hs.slot k _ g1 (fun x hx => by cases hx)
      exact ⟨b, g2, g3⟩
def lookK : List Nat → List Nat → Nat → Option (Nat × Nat)
  | k :: ks, b :: bs, u => if u = k then some (b, 0) else lookK ks bs u
  | _, _, _ => none
theorem lookK_some : ∀ {ks bs : List Nat} {u b p : Nat}, lookK ks bs u = some (b, p) → p = 0 ∧ b ∈ bs ∧ u ∈ ks
  | k :: ks, b' :: bs, u, b, p, h => by
    simp only [lookK] at h
    split at h
    · rename_i hu; cases h; exact ⟨rfl, by simp, by simp [hu]⟩
    · obtain ⟨h1, h2, h3⟩ := lookK_some h; exact ⟨h1, by simp [h2], by simp [h3]⟩
  | [], _, _, _, _, h => by cases h
  | _ :: _, [], _, _, _, h => by cases h
theorem lookK_inj : ∀ {ks bs : List Nat} {u u' b p p' : Nat}, bs.Nodup → lookK ks bs u = some (b, p) → lookK ks bs u' = some (b, p') → u = u'
  | k :: ks, b' :: bs, u, u', b, p, p', hn, h, h' => by
    obtain ⟨hn1, hn2⟩ := List.nodup_cons.1 hn
    simp only [lookK] at h h'
    split at h
    · rename_i hu
      cases h
      split at h'
      · rename_i hu'; rw [hu, hu']
      · exact absurd (lookK_some h').2.1 hn1
    · split at h'
      · cases h'; exact absurd (lookK_some h).2.1 hn1
      · exact lookK_inj hn2 h h'
  | [], _, _, _, _, _, _, _, h, _ => by cases h
  | _ :: _, [], _, _, _, _, _, _, h, _ => by cases h
theorem lookK_all : ∀ {ks bs : List Nat}, ks.Nodup → ks.length = bs.length → All2 (fun k b => lookK ks bs k = some (b, 0)) ks bs
  | [], [], _, _ => trivial
  | k :: ks, b :: bs, hn, hl => by
    obtain ⟨h1, h2⟩ := List.nodup_cons.1 hn
    refine ⟨by simp [lookK], ?_⟩
    have key : ∀ (as cs : List Nat), (∀ x ∈ as, x ≠ k) → All2 (fun k b => lookK ks bs k = some (b, 0)) as cs → All2 (fun k' b' => lookK (k :: ks) (b :: bs) k' = some (b', 0)) as cs := by
      intro as
      induction as with
      | nil => intro cs _ h; cases cs with | nil => trivial | cons => exact h.elim
      | cons x as ih =>
        intro cs hx h
        cases cs with
        | nil => exact h.elim
        | cons c cs => exact ⟨by simp only [lookK]; rw [if_neg (hx x (by simp))]; exact h.1, ih cs (fun y hy => hx y (by simp [hy])) h.2⟩
    exact key _ _ (fun x hx e => h1 (e ▸ hx)) (lookK_all h2 (by simpa using hl))
  | [], _ :: _, _, hl => by simp at hl
  | _ :: _, [], _, hl => by simp at hl
theorem posIn_ge : ∀ {mask : List Bool} {i k : Nat}, k ∈ posIn mask i → i ≤ k
  | true :: mask, i, k, h => by
    simp only [posIn, List.mem_cons] at h
    rcases h with rfl | h
    · omega
    · have := posIn_ge h; omega
  | false :: mask, i, k, h => by have := posIn_ge (mask := mask) (show k ∈ posIn mask (i + 1) from h); omega
theorem posIn_nodup : ∀ {mask : List Bool} {i : Nat}, (posIn mask i).Nodup
  | [], _ => List.nodup_nil
  | true :: mask, i => by
    refine List.nodup_cons.2 ⟨fun h => ?_, posIn_nodup⟩
    have := posIn_ge h; omega
  | false :: mask, i => posIn_nodup (mask := mask)
theorem ptrs_rel {X : Nat → Nat → Prop} : ∀ {ks bs sz : List Nat} {vs pc : List Value}, All2 (fun k b => m k = some (b, 0)) ks bs → PtrVals w X bs sz vs pc → All2 (fun k v => ∃ b, m k = some (b, 0) ∧ v = .pointer (some ⟨b, 0, none⟩)) ks vs
  | [], [], sz, vs, pc, _, h => by cases sz <;> cases vs <;> first | trivial | exact h.elim
  | k :: ks, b :: bs, n :: sz, v :: vs, pc, ha, h => ⟨⟨b, ha.1, h.1⟩, by obtain ⟨_, _, us, T, pc', _, _, _, h'⟩ := h; exact ptrs_rel ha.2 h'⟩
  | k :: ks, b :: bs, [], vs, pc, _, h => by cases vs <;> exact h.elim
  | k :: ks, b :: bs, n :: sz, [], pc, _, h => h.elim
  | [], _ :: _, _, _, _, h, _ => h.elim
  | _ :: _, [], _, _, _, h, _ => h.elim
theorem ptrs_len {X : Nat → Nat → Prop} : ∀ {bs sz : List Nat} {vs pc : List Value}, PtrVals w X bs sz vs pc → bs.length = sz.length ∧ vs.length = sz.length ∧ pc.length = sumN sz
  | [], [], [], pc, h => by have h : pc = [] := h; subst h; exact ⟨rfl, rfl, rfl⟩
  | b :: bs, n :: sz, v :: vs, pc, h => by
    obtain ⟨_, _, us, T, pc', _, h1, rfl, h'⟩ := h
    obtain ⟨g1, g2, g3⟩ := ptrs_len h'
    exact ⟨by simp [g1], by simp [g2], by simp [sumN, g3, h1]⟩
  | [], _ :: _, vs, _, h => by cases vs <;> exact h.elim
  | _ :: _, [], vs, _, h => by cases vs <;> exact h.elim
  | [], [], _ :: _, _, h => h.elim
  | _ :: _, _ :: _, [], _, h => h.elim
theorem ptrs_X {X : Nat → Nat → Prop} : ∀ {bs sz : List Nat} {vs pc : List Value}, PtrVals w X bs sz vs pc → ∀ b ∈ bs, ∀ q, X b q
  | b :: bs, n :: sz, v :: vs, pc, h, c, hc, q => by
    obtain ⟨_, h1, us, T, pc', _, _, _, h'⟩ := h
    rcases List.mem_cons.1 hc with rfl | hc
    · exact h1 q
    · exact ptrs_X h' c hc q
  | [], _, _, _, _, c, hc, _ => by cases hc
  | _ :: _, [], vs, _, h, _, _, _ => by cases vs <;> exact h.elim
  | _ :: _, _ :: _, [], _, h, _, _, _ => h.elim
theorem ptrs_again {X : Nat → Nat → Prop} {m' : Map} : ∀ {ks bs sz : List Nat} {vs pc qv : List Value}, All2 (fun k b => m' k = some (b, 0)) ks bs → PtrVals w X bs sz vs pc → BoxVals m' w' (zipN ks sz) qv → PtrVals w' X bs sz vs qv
  | [], [], sz, vs, pc, qv, _, h, hb => by cases sz <;> cases vs <;> first | exact hb | exact h.elim
  | k :: ks, b :: bs, n :: sz, v :: vs, pc, qv, ha, h, hb => by
    obtain ⟨h1, h2, us, T, pc', _, _, _, h'⟩ := h
    obtain ⟨b2, us2, T2, qv', g1, g2, g3, rfl, g4⟩ := hb
    rw [ha.1] at g1
    cases g1
    exact ⟨h1, h2, us2, T2, qv', g2, g3, rfl, ptrs_again ha.2 h' g4⟩
  | k :: ks, b :: bs, [], vs, pc, _, _, h, _ => by cases vs <;> exact h.elim
  | k :: ks, b :: bs, n :: sz, [], pc, _, _, h, _ => h.elim
  | [], _ :: _, _, _, _, _, h, _, _ => h.elim
  | _ :: _, [], _, _, _, _, h, _, _ => h.elim
theorem insP_ok {X : Nat → Nat → Prop} : ∀ {mask : List Bool} {i : Nat} {vs : List SV} {args : List Value}, All2 (SR m X w) vs (valsOf mask args) → All2 (fun k v => ∃ b, m k = some (b, 0) ∧ v = .pointer (some ⟨b, 0, none⟩)) (posIn mask i) (ptrsIn mask args) → args.length = mask.length →
    All2 (SR m X w) (insP mask i vs) args
  | [], i, vs, [], _, _, _ => trivial
  | [], i, vs, _ :: _, _, _, hl => by simp at hl
  | _ :: _, i, vs, [], _, _, hl => by simp at hl
  | true :: mask, i, vs, v :: args, h1, h2, hl => ⟨h2.1, insP_ok (mask := mask) h1 h2.2 (by simpa using hl)⟩
  | false :: mask, i, [], v :: args, h1, h2, hl => h1.elim
  | false :: mask, i, s :: vs, v :: args, h1, h2, hl => ⟨h1.1, insP_ok (mask := mask) h1.2 h2 (by simpa using hl)⟩
theorem exC_take (b : Bool) : ∀ (cs : List Cell) (n : Nat), exC b (cs.take n) = (exC b cs).take n
  | [], n => by simp [exC]
  | c :: r, 0 => by simp [exC]
  | c :: r, n + 1 => by cases c <;> simp only [List.take_succ_cons, exC, exC_take b r n]
theorem exC_drop (b : Bool) : ∀ (cs : List Cell) (n : Nat), exC b (cs.drop n) = (exC b cs).drop n
  | [], n => by simp [exC]
  | c :: r, 0 => rfl
  | c :: r, n + 1 => by cases c <;> simp only [List.drop_succ_cons, exC, exC_drop b r n]
theorem exC_pl {b : Bool} : ∀ {cs : List Cell}, (∀ c ∈ cs, c.pl = true) → ∀ c ∈ exC b cs, c.pl = true
  | [], _, c, hc => by cases hc
  | d :: r, h, c, hc => by
    have ih := exC_pl (b := b) (cs := r) (fun x hx => h x (by simp [hx]))
    cases d with
    | lst e tl l =>
      simp only [exC, List.mem_cons] at hc
      rcases hc with rfl | hc
      · rfl
      · exact ih c hc
    | _ =>
      simp only [exC, List.mem_cons] at hc
      rcases hc with rfl | hc
      · exact h _ (by simp)
      · exact ih c hc
theorem exC_no {X : Nat → Nat → Prop} {b : Bool} : ∀ {cs : List Cell} {vs : List Value}, CRs m X w (exC b cs) vs → CRs m X w (cs.map Cell.no) vs
  | [], vs, h => h
  | c :: r, [], h => by cases c <;> exact h.elim
  | c :: r, v :: vs, h => by
    cases c with
    | lst e tl l => exact ⟨⟨h.1.1, trivial⟩, exC_no h.2⟩
    | _ => exact ⟨h.1, exC_no h.2⟩
theorem enc_no : ∀ (t : Ty) (x : t.den), (enc t x).map Cell.no = enc t x ∧ ∀ c ∈ enc t x, c.pl = true := by
  intro t
  induction t with
  | pair a b iha ihb =>
    intro x
    simp only [enc, app_eq, List.map_append, (iha x.1).1, (ihb x.2).1, List.mem_append, true_and]
    intro c hc
    rcases hc with hc | hc
    · exact (iha x.1).2 c hc
    · exact (ihb x.2).2 c hc
  | unit => intro x; exact ⟨rfl, fun c hc => by cases hc⟩
  | _ => intro x; refine ⟨rfl, fun c hc => ?_⟩; simp only [enc, List.mem_singleton] at hc; subst hc; rfl
theorem crs_any {m m' : Map} {X : Nat → Nat → Prop} : ∀ {cs : List Cell} {us : List Value}, (∀ c ∈ cs, c.pl = true) → CRs m X w cs us → CRs m' X w cs us
  | [], [], _, _ => trivial
  | [], _ :: _, _, h => h.elim
  | _ :: _, [], _, h => h.elim
  | c :: cs, u :: us, hp, h => ⟨CR.pl_any (hp c (by simp)) h.1, crs_any (fun c hc => hp c (by simp [hc])) h.2⟩
theorem boxesOf_mk {mk : List Cell → Bx} {X : Nat → Nat → Prop} {rest : List Value} : ∀ {l : List (Nat × Nat)} {cs : List Cell} {vs : List Value} {u : Nat} {bx : Bx}, BoxVals m w l vs → CRs m X w cs (vs ++ rest) → boxesOf mk l cs u = some bx →
    u ∈ firsts l ∧ ∃ cs', bx = mk cs' ∧ ∃ b us T, m u = some (b, 0) ∧ w.heap[b]? = some (.cells us T (0, 0)) ∧ CRs m X w cs' us.toList
  | [], cs, vs, u, bx, _, _, h => by cases h
  | (k, n) :: r, cs, vs, u, bx, hv, hc, h => by
    obtain ⟨b, us, T, vs', hm, hh, hl, rfl, h1⟩ := hv
    have h3 := All2.take n hc
    have h4 := All2.drop n hc
    rw [List.append_assoc, show (us.toList ++ (vs' ++ rest)).take n = us.toList by rw [← hl]; simp] at h3
    rw [List.append_assoc, show (us.toList ++ (vs' ++ rest)).drop n = vs' ++ rest by rw [← hl]; simp] at h4
    simp only [boxesOf] at h
    by_cases hut : u = k
    · rw [cnd_beq_true hut] at h
      cases h
      subst hut
      exact ⟨by simp [firsts], _, rfl, b, us, T, hm, hh, h3⟩
    · rw [cnd_beq_false hut] at h
      obtain ⟨h5, h6⟩ := boxesOf_mk h1 h4 h
      exact ⟨by simp [firsts, h5], h6⟩
theorem shapeR_len : ∀ {sh : List (Option Nat)} {vs cs : List Value} {cells : List Cell} {xs : List SV}, ShapeR sh vs cs → unshape sh cells = some xs → True := fun _ _ => trivial
def evFnK {ρ₀ ρ : Type} (C : Ctx) (fn : Func) (p : Ty) (psh : List (Option Nat)) (mask : List Bool) (sz : List Nat) (ro ex : Bool) (L : Nat → Option (LS ρ₀)) (c c1 : Code) (k : Ex → ASt → Tr ρ₀ ρ) (x : p.den) : Tr ρ₀ ρ :=
  match unshape psh (exC ex ((enc p x).take (Nat.sub p.n (sumN sz)))) with
  | some vs => cnd (andd (allB (fun d => Nat.ble (Nat.succ d) fn.ntmps) (dsts c)) (andd (allB (fun d => nott (mem d (posIn mask 0))) (dsts c)) (Nat.beq (lenL (posIn mask 0)) (lenL sz))))
      (evCode C L c1 { slot := fun t => initSlots (insP mask 0 vs) 0 t, box := boxesOf (cnd ro .ro .cells) (zipN (posIn mask 0) sz) ((enc p x).drop (Nat.sub p.n (sumN sz))) } k) .bad
  | none => .bad
theorem SatM.reDefer {d : List Deferred} (h : SatM φ ν m st a w) : SatM { φ with a0 := { φ.a0 with defers := d } } ν m st { a with defers := d } w :=
  { tmps := h.tmps, defers := rfl, slot := h.slot, skip := h.skip, box := h.box, inj := h.inj, low := h.low, dom := h.dom, own := h.own, vn := h.vn, ngl := h.ngl, n0 := h.n0, glob := h.glob, old := h.old, keep := h.keep, keepS := h.keepS, x0 := h.x0, keepT := h.keepT }
structure InF (C : Ctx) (c : Code) (cp : Cp) (w : World) (X : Nat → Nat → Prop) (args : Array Value) (bs : List Nat) (φ : Fr) : Prop where
  ok : FrOk C.G φ
  n0 : φ.n0 = w.heap.size
  dsts : ∀ d ∈ dsts c, d < φ.n ∧ φ.D d = true
  below : ∀ w', KeepW φ w' → BelowBut (if cp.ro then [] else bs) w w'
  ptrs : ∀ (m' : Map) (a' : Act), KeepA φ a' → (∀ k ∈ posIn cp.mask 0, ∃ b, m' k = some (b, 0) ∧ a'.tmps.getD k undef = .pointer (some ⟨b, 0, none⟩)) → All2 (fun k b => m' k = some (b, 0)) (posIn cp.mask 0) bs
  x0 : ∀ b p, X b p → b ∈ bs ∨ φ.X0 b p
  low : ∀ b p, X b p → b < w.heap.size
  B : ∀ b, φ.B b → b ∈ bs
  w0 : φ.w0 = w
theorem InF.noA {c : Code} {cp : Cp} {X : Nat → Nat → Prop} {args : Array Value} {bs : List Nat} {m' : Map} {w0 : World} (h : InF C c cp w0 X args bs φ) (hm' : SatM φ ν m' st a w) (hkb' : All2 (fun k b => m' k = some (b, 0)) (posIn cp.mask 0) bs) : NoMore w (XA φ m') X := by
  intro b p _ hx
  rcases h.x0 b p hx with hin | hx
  · obtain ⟨k, _, hk⟩ := hkb'.mem_right b hin
    exact .inr ⟨k, 0, hk, rfl⟩
  · exact .inl hx
theorem InF.noC {c : Code} {cp : Cp} {X : Nat → Nat → Prop} {args : Array Value} {bs : List Nat} {m' : Map} {w0 : World} (h : InF C c cp w0 X args bs φ) (hm' : SatM φ ν m' st a w) (hkb' : All2 (fun k b => m' k = some (b, 0)) (posIn cp.mask 0) bs) {ks2 : List Nat} : NoMore w (Xc φ m' ks2) X := by
  intro b p hlt hx
  refine ⟨h.noA hm' hkb' b p hlt hx, fun j _ p0 he hp hmj => ?_⟩
  have h4 := h.low b p hx
  have h5 := hm'.vn j b p0 hmj he hp
  rw [h.n0] at h5
  omega
theorem fn_core (hC : CtxOk P C) {fn : Func} {cp : Cp} {ρ₀ ρ : Type} {Ret : Exit → Nat → (Nat → Nat → Prop) → ρ₀ → Act → World → Prop} {L : Nat → Option (LS ρ₀)} {c c1 : Code} (hcc : ∀ d ∈ dsts c1, d ∈ dsts c)
    {rt : ρ₀ → ρ} {Post : ρ → Prop} {k : Ex → ASt → Tr ρ₀ ρ} {R : Exit → Act → World → Prop}
    (hmono : ∀ e n X X' r a w, (∀ b p, X' b p → X b p) → Ret e n X r a w → Ret e n X' r a w)
    (hL : ∀ body ∈ loopsIn c1, ∀ s, L (codeId body) = some s → LoopOk P C.G Ret body s)
    {x : cp.p.den} {w : World} {X : Nat → Nat → Prop} {args : Array Value} {cv pc : List Value} {bs : List Nat} (hH : C.G.H w) (hX : ∀ b p, X b p → b < w.heap.size ∧ ¬ C.G.gl b) (hsize : args.size = cp.mask.length) (hbn : bs.Nodup)
    (hsh : ShapeR cp.psh (valsOf cp.mask args.toList) cv) (hpv : PtrVals w X bs cp.sz (ptrsIn cp.mask args.toList) pc) (hcs : CRs (fun _ => none) X w (exC cp.ex (enc cp.p x)) (cv ++ pc))
    (hA : (evFnK C fn cp.p cp.psh cp.mask cp.sz cp.ro cp.ex L c c1 k x).All rt Post)
    (hend : ∀ φ, InF C c cp w X args bs φ → φ.a0.defers = [] → ∀ e st' a' w' m', SatM φ ν0 m' st' a' w' → Plain st' → (k e st').All rt Post → R (exOf e) a' w')
    (hret : ∀ φ, InF C c cp w X args bs φ → φ.a0.defers = [] → ∀ e, IsOut e → ∀ r a' w', Post (rt r) → Ret e φ.n0 φ.X0 r a' w' → KeepW φ w' → KeepA φ a' → R e a' w') :
    c1.wp P R { tmps := args ++ Array.replicate (fn.ntmps - args.size) undef, defers := [] } w := by
  have hno := enc_no cp.p x
  have hTR : TR w X cp.p x (cv ++ pc) := by
    have h1 := exC_no hcs
    rw [hno.1] at h1
    exact dec_ok (t := cp.p) (x := x) (by
      have key : ∀ (t : Ty) (x : t.den), dec t (enc t x) = some x := by
        intro t
        induction t with
        | pair a b iha ihb =>
          intro x
          simp only [enc, dec, app_eq]
          have h1 := enc_len a x.1
          rw [List.take_append_of_le_length (by omega), List.take_of_length_le (by omega), List.drop_append_of_le_length (by omega), List.drop_of_length_le (by omega), List.nil_append, iha, ihb]
        | int k => intro x; cases k <;> rfl
        | flt k => intro x; cases k <;> rfl
        | sl e ih =>
          intro l
          simp only [enc, dec]
          unfold castL
          have : tyeq e e = true := by
            clear ih l
            induction e with
            | int k => cases k <;> rfl
            | flt k => cases k <;> rfl
            | pair x y ihx ihy => simp only [tyeq, ihx, ihy]
            | sl x ih => exact ih
            | _ => rfl
          split
          · rfl
          · rename_i h; rw [this] at h; cases h
        | _ => intro x; rfl
      exact key _ _) h1
  unfold evFnK at hA
  split at hA
  case h_2 => exact hA.elim
  rename_i vs hvs
  obtain ⟨hck1, hck2, hck3, hA⟩ : allB (fun d => Nat.ble (Nat.succ d) fn.ntmps) (dsts c) = true ∧ allB (fun d => nott (mem d (posIn cp.mask 0))) (dsts c) = true ∧ (posIn cp.mask 0).length = cp.sz.length ∧
      (evCode C L c1 { slot := fun t => initSlots (insP cp.mask 0 vs) 0 t, box := boxesOf (cnd cp.ro .ro .cells) (zipN (posIn cp.mask 0) cp.sz) ((enc cp.p x).drop (Nat.sub cp.p.n (sumN cp.sz))) } k).All rt Post := by
    cases hck : andd (allB (fun d => Nat.ble (Nat.succ d) fn.ntmps) (dsts c)) (andd (allB (fun d => nott (mem d (posIn cp.mask 0))) (dsts c)) (Nat.beq (lenL (posIn cp.mask 0)) (lenL cp.sz))) with
    | false => rw [hck] at hA; exact hA.elim
    | true =>
      rw [hck] at hA
      obtain ⟨h1, h2⟩ := andd_true hck
      obtain ⟨h2, h3⟩ := andd_true h2
      have h3 := beq_eq h3
      rw [lenL_eq, lenL_eq] at h3
      exact ⟨h1, h2, h3, hA⟩
  obtain ⟨l1, l2, l3⟩ := ptrs_len hpv
  let ks := posIn cp.mask 0
  let m : Map := lookK ks bs
  let a0 : Act := { tmps := args ++ Array.replicate (fn.ntmps - args.size) undef, defers := [] }
  let φ : Fr := { n := a0.tmps.size, w0 := w, a0 := a0, B := fun b => cp.ro = false ∧ b ∈ bs, D := fun t => mem t (dsts c), X0 := fun b q => X b q ∧ b ∉ bs, n0 := w.heap.size, base := w, gl := C.G.gl }
  have hkb : All2 (fun k b => m k = some (b, 0)) ks bs := lookK_all posIn_nodup (by rw [hck3, l1])
  have hXb := ptrs_X hpv
  have hXA : XA φ m = X := by
    funext b p
    refine propext ⟨fun h => ?_, fun h => ?_⟩
    · rcases h with h | ⟨k, p0, h1, _⟩
      · exact h.1
      · exact hXb b (lookK_some h1).2.1 p
    · by_cases hin : b ∈ bs
      · obtain ⟨k, _, hk⟩ := hkb.mem_right b hin
        exact .inr ⟨k, 0, hk, rfl⟩
      · exact .inl ⟨h, hin⟩
  have hlenE := enc_len cp.p x
  have hlc : (cv ++ pc).length = cp.p.n := hTR.len
  have hcvl : cv.length = cp.p.n - sumN cp.sz := by rw [List.length_append, l3] at hlc; omega
  have hcv : CRs m X w (exC cp.ex ((enc cp.p x).take (Nat.sub cp.p.n (sumN cp.sz)))) cv := by
    have h1 := All2.take (Nat.sub cp.p.n (sumN cp.sz)) hcs
    rw [show (cv ++ pc).take (Nat.sub cp.p.n (sumN cp.sz)) = cv by rw [show Nat.sub cp.p.n (sumN cp.sz) = cv.length from hcvl.symm]; simp, ← exC_take] at h1
    exact crs_any (exC_pl fun c hc => hno.2 c (List.mem_of_mem_take hc)) h1
  have hpc : CRs m X w ((enc cp.p x).drop (Nat.sub cp.p.n (sumN cp.sz))) (pc ++ []) := by
    have h1 := All2.drop (Nat.sub cp.p.n (sumN cp.sz)) hcs
    rw [show (cv ++ pc).drop (Nat.sub cp.p.n (sumN cp.sz)) = pc by rw [show Nat.sub cp.p.n (sumN cp.sz) = cv.length from hcvl.symm]; simp, ← exC_drop] at h1
    have h2 := exC_no (show CRs (fun _ => none) X w (exC cp.ex ((enc cp.p x).drop (Nat.sub cp.p.n (sumN cp.sz)))) pc from h1)
    rw [List.map_drop, hno.1] at h2
    rw [List.append_nil]
    exact crs_any (fun c hc => hno.2 c (List.mem_of_mem_drop hc)) h2
  have hbv : BoxVals m w (zipN ks cp.sz) pc := boxVals_of hkb hpv
  have hfz : firsts (zipN ks cp.sz) = ks := firsts_zip hck3
  have hall : All2 (SR m (XA φ m) w) (insP cp.mask 0 vs) args.toList := by
    rw [hXA]
    exact insP_ok (unshape_ok hvs hsh hcv) (ptrs_rel hkb hpv) (by simpa using hsize)
  have hslot : ∀ t g, initSlots (insP cp.mask 0 vs) 0 t = some g → g.tags = [] ∧ VR m (XA φ m) w g.tv (a0.tmps.getD t undef) := by
    intro t g hg
    obtain ⟨h1, u, h2, _, h4⟩ := initSlots_ok hall hg
    refine ⟨h1, ?_⟩
    have : a0.tmps.getD t undef = u := by
      rw [Nat.sub_zero, Array.getElem?_toList] at h2
      show (args ++ _).getD t undef = u
      have hlt : t < args.size := (Array.getElem?_eq_some_iff.1 h2).1
      rw [Array.getD_eq_getD_getElem?, Array.getElem?_append_left hlt, h2]
      rfl
    rw [this]; exact h4
  have hblt : ∀ b ∈ bs, b < w.heap.size := fun b hb => (hX b 0 (hXb b hb 0)).1
  have hsat : SatM φ ν0 m { slot := fun t => initSlots (insP cp.mask 0 vs) 0 t, box := boxesOf (cnd cp.ro .ro .cells) (zipN ks cp.sz) ((enc cp.p x).drop (Nat.sub cp.p.n (sumN cp.sz))) } a0 w := {
    tmps := rfl
    defers := rfl
    slot := fun t g hg _ => (hslot t g hg).2
    skip := fun t g hg ht => absurd (by rw [(hslot t g hg).1]; intro x hx; cases hx) ht
    box := fun k bx hk => by
      rw [hXA]
      obtain ⟨_, cs', rfl, b, us, T, h1, h2, h3⟩ := boxesOf_mk hbv hpc hk
      cases cp.ro with
      | true => exact ⟨b, us, T, h1, h2, h3⟩
      | false => exact ⟨b, us, T, h1, h2, h3⟩
    inj := fun k k' b p p' h h' _ _ => lookK_inj hbn h h'
    low := fun k b p h _ => hblt b (lookK_some h).2.1
    dom := fun k hk => by
      have := boxesOf_none hk
      rw [hfz] at this
      cases hm : m k with
      | none => rfl
      | some bp => exact absurd (lookK_some (b := bp.1) (p := bp.2) hm).2.2 this
    own := fun k bx b p h1 h2 h3 _ => by
      obtain ⟨_, cs', rfl, _⟩ := boxesOf_mk hbv hpc h1
      cases hro : cp.ro with
      | true => rw [hro] at h2; cases h2
      | false => exact .inl ⟨hro, (lookK_some h3).2.1⟩
    vn := fun k b p h _ hp => by have := (lookK_some h).1; omega
    ngl := fun k b p h _ => (hX b 0 (hXb b (lookK_some h).2.1 0)).2
    n0 := Nat.le_refl _
    glob := GK.refl fun b hb => C.G.low hH hb
    old := ⟨rfl, rfl, rfl, Nat.le_refl _⟩
    keep := fun _ _ _ => rfl
    keepS := fun _ _ => ⟨rfl, fun _ => rfl⟩
    x0 := fun b p h => ⟨(hX b p h.1).1, fun hf => h.2 hf.2, (hX b p h.1).2⟩
    keepT := fun t ht => rfl }
  have hdst : ∀ d ∈ dsts c, d < φ.n ∧ φ.D d = true := fun d hd => by
    refine ⟨?_, mem_spec.2 hd⟩
    have := Nat.le_of_ble_eq_true (allB_spec hck1 d hd)
    show d < (args ++ Array.replicate (fn.ntmps - args.size) undef).size
    simp
    omega
  have hin : InF C c cp w X args bs φ := {
    ok := ⟨hH, rfl⟩
    n0 := rfl
    dsts := hdst
    below := fun w' hk => ⟨hk.old.1, hk.old.2.1, hk.old.2.2.1, hk.old.2.2.2, fun k hk' hnin => hk.keep k hk' fun hB => by
        have hB : cp.ro = false ∧ k ∈ bs := hB
        rw [hB.1] at hnin
        exact hnin hB.2, fun k hk' => (hk.keepS k hk').1, fun k p hk' => (hk.keepS k hk').2 p⟩
    ptrs := fun m' a' hka hsl => by
      have hkb' : All2 (fun k b => m' k = some (b, 0)) ks bs := by
        have hrel := ptrs_rel hkb hpv
        have key : ∀ (mask : List Bool) (i : Nat) (as : List Value) (bs : List Nat), (∀ k ∈ posIn mask i, ∃ b, m' k = some (b, 0) ∧ a'.tmps.getD k undef = .pointer (some ⟨b, 0, none⟩)) → (∀ k ∈ posIn mask i, a'.tmps.getD k undef = as.getD (k - i) undef) →
            All2 (fun b v => v = .pointer (some ⟨b, 0, none⟩)) bs (ptrsIn mask as) → (as.length = mask.length) → All2 (fun k b => m' k = some (b, 0)) (posIn mask i) bs := by
          intro mask
          induction mask with
          | nil =>
            intro i as bs h1 h2 h3 hl
            cases as with
            | nil => cases bs with | nil => trivial | cons => exact h3.elim
            | cons => simp at hl
          | cons mk mask ih =>
            intro i as bs h1 h2 h3 hl
            cases as with
            | nil => simp at hl
            | cons v as =>
              cases mk with
              | true =>
                cases bs with
                | nil => exact h3.elim
                | cons b bs =>
                  have g1 := h1 i (by simp [posIn])
                  have g2 := h2 i (by simp [posIn])
                  have hv : v = .pointer (some ⟨b, 0, none⟩) := h3.1
                  rw [Nat.sub_self] at g2
                  obtain ⟨b2, g3, g4⟩ := g1
                  rw [g2] at g4
                  simp only [List.getD_cons_zero] at g4
                  rw [hv] at g4
                  cases g4
                  refine ⟨g3, ih (i + 1) as bs (fun k hk => h1 k (by simp [posIn, hk])) (fun k hk => ?_) h3.2 (by simpa using hl)⟩
                  have := h2 k (by simp [posIn, hk])
                  have hge := posIn_ge hk
                  rw [this, show k - i = (k - (i + 1)) + 1 by omega, List.getD_cons_succ]
              | false =>
                refine ih (i + 1) as bs (fun k hk => h1 k hk) (fun k hk => ?_) h3 (by simpa using hl)
                have := h2 k hk
                have hge := posIn_ge (mask := mask) (i := i + 1) hk
                rw [this, show k - i = (k - (i + 1)) + 1 by omega, List.getD_cons_succ]
        refine key cp.mask 0 args.toList bs hsl (fun k hk => ?_) ?_ (by simpa using hsize)
        · have hD : φ.D k = false := by
            cases hq : mem k (dsts c) with
            | false => exact hq
            | true =>
              have := nott_true (allB_spec hck2 k (mem_spec.1 hq))
              rw [mem_spec.2 hk] at this
              cases this
          rw [hka.2 k hD]
          show (args ++ _).getD k undef = _
          rw [Nat.sub_zero]
          have hlt : k < args.size := by
            have hp : ∀ (mask : List Bool) (i k : Nat), k ∈ posIn mask i → k < i + mask.length := by
              intro mask
              induction mask with
              | nil => intro i k h; cases h
              | cons mk mask ih =>
                intro i k h
                cases mk with
                | true =>
                  simp only [posIn, List.mem_cons] at h
                  rcases h with rfl | h
                  · simp
                  · have := ih _ _ h; simp; omega
                | false => have := ih (i + 1) k h; simp; omega
            have := hp _ _ _ hk
            omega
          rw [Array.getD_eq_getD_getElem?, Array.getElem?_append_left hlt, List.getD_eq_getElem?_getD, Array.getElem?_toList]
        · have key2 : ∀ (bs sz : List Nat) (vs pc : List Value), PtrVals w X bs sz vs pc → All2 (fun b v => v = .pointer (some ⟨b, 0, none⟩)) bs vs := by
            intro bs
            induction bs with
            | nil => intro sz vs pc h; cases sz <;> cases vs <;> first | trivial | exact h.elim
            | cons b bs ih =>
              intro sz vs pc h
              cases sz with
              | nil => cases vs <;> exact h.elim
              | cons n sz =>
                cases vs with
                | nil => exact h.elim
                | cons v vs => obtain ⟨h1, _, us, T, pc', _, _, _, h'⟩ := h; exact ⟨h1, ih sz vs pc' h'⟩
          exact key2 _ _ _ _ hpv
      exact hkb'
    x0 := fun b p hx => by
      by_cases hin : b ∈ bs
      · exact .inl hin
      · exact .inr ⟨hx, hin⟩
    low := fun b p hx => (hX b p hx).1
    B := fun b h => h.2
    w0 := rfl }
  exact evCode_ok (φ := φ) hC ⟨hH, rfl⟩ hmono c1 _ _ _ a0 w (fun t g hg => (hslot t g hg).1) ⟨m, hsat⟩
    (fun d hd => hdst d (hcc d hd)) hL hA (fun e st' a' w' hp' ⟨m', hm'⟩ hA' => hend φ hin rfl e st' a' w' m' hm' hp' hA') (fun e he r a' w' hp hr hk hd => hret φ hin rfl e he r a' w' hp hr hk hd)
theorem fn_okP (hC : CtxOk P C) {f : FuncId} {fn : Func} (hf : P.funcs[f]? = some fn) {cp : Cp} {L : Nat → Option (LS Unit)} {c : Code} (hb : fn.body = some c) {dflt : cp.r.den × cp.q.den}
    (hL : ∀ body ∈ loopsIn c, ∀ s, L (codeId body) = some s → LoopOk P C.G (fun _ _ _ (_ : Unit) _ _ => False) body s)
    (hsafe : ∀ x, (cp.ex = false → Fit cp.p x) → (∀ q, cp.pre = some q → q x) → (evFnP C fn cp.p cp.psh cp.mask cp.sz cp.ro cp.ex cp.q cp.rsh cp.r L x).safe)
    (hval : ∀ x, (evFnP C fn cp.p cp.psh cp.mask cp.sz cp.ro cp.ex cp.q cp.rsh cp.r L x).val (fun _ => dflt) dflt = cp.F x) (hpn : cp.pn = none := by rfl) : CpOk P C.G f cp := by
  intro x w X args cv pc bs hH hX hpre hsize hbn hsh hpv hcs
  have hno := enc_no cp.p x
  have hTR : TR w X cp.p x (cv ++ pc) := by
    have h1 := exC_no hcs
    rw [hno.1] at h1
    exact dec_ok (t := cp.p) (x := x) (by
      have key : ∀ (t : Ty) (x : t.den), dec t (enc t x) = some x := by
        intro t
        induction t with
        | pair a b iha ihb =>
          intro x
          simp only [enc, dec, app_eq]
          have h1 := enc_len a x.1
          rw [List.take_append_of_le_length (by omega), List.take_of_length_le (by omega), List.drop_append_of_le_length (by omega), List.drop_of_length_le (by omega), List.nil_append, iha, ihb]
        | int k => intro x; cases k <;> rfl
        | flt k => intro x; cases k <;> rfl
        | sl e ih =>
          intro l
          simp only [enc, dec]
          unfold castL
          have : tyeq e e = true := by
            clear ih l
            induction e with
            | int k => cases k <;> rfl
            | flt k => cases k <;> rfl
            | pair x y ihx ihy => simp only [tyeq, ihx, ihy]
            | sl x ih => exact ih
            | _ => rfl
          split
          · rfl
          · rename_i h; rw [this] at h; cases h
        | _ => intro x; rfl
      exact key _ _) h1
  have hA := all_of_safe (rt := fun _ => dflt) (d := dflt) (hsafe x (fun _ => fit_of hTR) hpre)
  rw [hval] at hA
  have hA : (evFnK C fn cp.p cp.psh cp.mask cp.sz cp.ro cp.ex L c c (evRetP C fn cp.rsh cp.r cp.q cp.ro (zipN (posIn cp.mask 0) cp.sz)) x).All (fun _ => dflt) (fun r => r = cp.F x) := by
    unfold evFnP at hA
    rw [hb] at hA
    unfold evFnK
    split at hA
    case h_2 => exact hA.elim
    rename_i c' vs hc' hvs
    cases hc'
    rw [hvs]
    exact hA
  have hck3 := (ptrs_len hpv).1
  have hfz : firsts (zipN (posIn cp.mask 0) cp.sz) = posIn cp.mask 0 := firsts_zip (by
    unfold evFnK at hA
    split at hA
    case h_2 => exact hA.elim
    cases hck : andd (allB (fun d => Nat.ble (Nat.succ d) fn.ntmps) (dsts c)) (andd (allB (fun d => nott (mem d (posIn cp.mask 0))) (dsts c)) (Nat.beq (lenL (posIn cp.mask 0)) (lenL cp.sz))) with
    | false => rw [hck] at hA; exact hA.elim
    | true =>
      obtain ⟨h1, h2⟩ := andd_true hck
      obtain ⟨h2, h3⟩ := andd_true h2
      have h3 := beq_eq h3
      rwa [lenL_eq, lenL_eq] at h3)
  have hpb : pnB cp x = false := by unfold pnB; rw [hpn]
  refine calls_of_wp hf hb (fn_core hC (fun d h => h) (Ret := fun _ _ _ _ _ _ => False) (fun e n X X' r a w h hr => hr) hL hH hX hsize hbn hsh hpv hcs hA (fun φ hin hd0 e st' a' w' m' hm' hp' hA' => ?_) (fun φ hin hd0 e he r a' w' hp hr hk hd => hr.elim))
  obtain ⟨hne, hnp, y, z, ks2, hPost, ⟨v, rv, hrun, hrr, hrs⟩, ⟨qv, hqb, hqr⟩, hsl⟩ := evRetP_ok hC hm' hA'
  rw [hfz] at hsl
  have hkb' := hin.ptrs m' a' hm'.keepA hsl
  have hfin : bodyPost P fn (fun e w' => (pnB cp x = false ∧ ∃ v, e = .returned v ∧ BelowBut (if cp.ro then [] else bs) w w' ∧ RetF w.heap.size none w' X cp.rsh cp.r (cp.F x).1 v ∧
      ∃ pc', PtrVals w' X bs cp.sz (ptrsIn cp.mask args.toList) pc' ∧ TR w' X cp.q (cp.F x).2 pc') ∨
      (pnB cp x = true ∧ e = .panicked [{ v := cp.pv, recovered := false }] ∧ BelowBut (if cp.ro then [] else bs) w w' ∧ ∃ pc', PtrVals w' X bs cp.sz (ptrsIn cp.mask args.toList) pc' ∧ TR w' X cp.q (cp.F x).2 pc')) .ret a' w' := by
    have hPost : (y, z) = cp.F x := hPost
    refine ⟨hm'.defers.trans hd0, v, hrun, .inl ⟨hpb, v, rfl, hin.below w' hm'.keepW, ⟨rv, ?_, (fun T hT => by cases hT), hrs⟩, qv, ptrs_again hkb' hpv hqb, ?_⟩⟩
    · rw [← hPost]; exact hrr.mono (keeps_refl _ _) (hin.noC hm' hkb') _ _ _
    · rw [← hPost]; exact hqr.mono (keeps_refl _ _) (hin.noA hm' hkb') _ _ _
  cases e with
  | exit id => exact absurd rfl (hne id)
  | pan v => exact absurd rfl (hnp v)
  | normal => exact hfin
  | ret => exact hfin
end
end Go.Proofs.Ytbnihoioblmgkaa.Sy
end
