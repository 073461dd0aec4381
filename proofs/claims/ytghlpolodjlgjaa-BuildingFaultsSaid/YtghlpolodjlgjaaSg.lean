/- Tables of types for the evaluator, and equality of structs (own work). -/
import Derived.Test.YtghlpolodjlgjaaSz
import Derived.Laws.StructEq
namespace Go.Proofs.Ytghlpolodjlgjaa.Sy
open Go Go.RowKit
set_option linter.unusedVariables false
set_option linter.unusedSimpArgs false

theorem infoOk_mk {P : Program} {t : TypeId} {ty : Ty} {ag : Bool} (h : (P.info? t).map (fun i => (i.size, i.zero)) = some (ty.n, some (mkV ag (zeroVs ty)))) : InfoOk P t ty ag := by
  rw [Option.map_eq_some_iff] at h
  obtain ⟨i, h1, h2⟩ := h
  cases h2' : i.zero with
  | none => simp [h2'] at h2
  | some z => simp only [h2', Prod.mk.injEq, Option.some.injEq] at h2; exact ⟨i, h1, h2.1, by rw [h2', h2.2]⟩

theorem tdOk_mk {P : Program} {t : TypeId} {d : TD} {e : TypeDesc} (hu : P.underlying t = some e) (hi : InfoOk P t d.ty d.agg)
    (hagg : d.agg = (match e with | .struct _ => true | .array _ _ => true | _ => false)) (hk : kindOk P d e) (hp : d.agg = false → plainOk d.ty e) (h1 : d.agg = false → d.ty.n = 1) : TDOk P t d where
  info := hi
  desc := ⟨e, hu, hk, hp⟩
  isAgg := by
    intro w
    unfold isAgg
    rw [Sem.run_bind, run_underlying hu, Result.andThen_ok, hagg]
    cases e <;> rfl
  one := h1

theorem all_info {P : Program} {fs : List (Nat × Nat)} (h : (fs.all fun p => (P.info? p.1).isSome) = true) : ∀ p ∈ fs, ∃ i, P.info? p.1 = some i := by
  intro p hp
  have := List.all_eq_true.1 h p hp
  exact Option.isSome_iff_exists.1 this

def lookupD : List (Nat × TD) → Nat → Option TD
  | [], _ => none
  | (i, d) :: r, t => cnd (Nat.beq t i) (some d) (lookupD r t)

theorem lookupD_mem : ∀ {l : List (Nat × TD)} {t : Nat} {d : TD}, lookupD l t = some d → (t, d) ∈ l
  | [], _, _, h => by cases h
  | (i, d') :: r, t, d, h => by
    simp only [lookupD] at h
    by_cases hti : t = i
    · rw [cnd_beq_true hti] at h; cases h; subst hti; simp
    · rw [cnd_beq_false hti] at h; exact List.mem_cons_of_mem _ (lookupD_mem h)

theorem bytes_mk {P : Program} {t : TypeId} {n : Nat} (h : (P.info? t).map (·.bytes) = some n) : ∀ i, P.info? t = some i → i.bytes = n := by
  intro i hi
  rw [hi] at h
  simpa using h

def lookXt : List (Nat × Xt) → Nat → Option Xt
  | [], _ => none
  | (i, x) :: r, t => cnd (Nat.beq t i) (some x) (lookXt r t)
theorem lookXt_cons {P : Program} {f : Nat} {x : Xt} {l : List (Nat × Xt)} (h1 : XtOk P f x) (h : ∀ g y, lookXt l g = some y → XtOk P g y) : ∀ g y, lookXt ((f, x) :: l) g = some y → XtOk P g y := by
  intro g y hg
  simp only [lookXt] at hg
  by_cases hgf : g = f
  · rw [cnd_beq_true hgf] at hg; cases hg; subst hgf; exact h1
  · rw [cnd_beq_false hgf] at hg; exact h g y hg

/-- Nothing is asked of the world. -/
def gdNone : Gd := { H := fun _ => True, gl := fun _ => False, mono := fun _ _ => trivial, low := fun _ h => h.elim }

/-! ### Equality -/
def EqT (P : Program) (dd : Nat) (t : TypeId) (ty : Ty) (ag : Bool) : Prop :=
  ∀ (m : Map) (X : Nat → Nat → Prop) (w : World) (xs ys : List Cell) (r : Bool) (us vs : List Value), eqTy ty xs ys = some r → CRs m X w xs us → CRs m X w ys vs →
    (Op.equalIn dd t (mkV ag us) (mkV ag vs)).run P w = .ok r w

theorem eqT_int {P : Program} {t : TypeId} {k : IntKind} (hu : P.underlying t = some (.int k)) (dd : Nat) : EqT P (dd + 1) t (.int k) false := by
  intro m X w xs ys r us vs he hx hy
  unfold eqTy at he
  split at he
  case h_2 => cases he
  rename_i k1 a k2 b
  obtain ⟨hk, he2⟩ := cnd_some he
  obtain ⟨h1, h2⟩ := andd_true hk
  simp only [Option.some.injEq] at he2
  subst he2
  match us, vs, hx, hy with
  | [u], [v], hx, hy =>
    have h3 : u = .int k1 a := hx.1
    have h4 : v = .int k2 b := hy.1
    rw [← keq_eq h1] at h3
    rw [← keq_eq h2] at h4
    simp only [mkV, Bool.false_eq_true, if_false, List.headD_cons, h3, h4]
    exact run_equalIn_int w dd t k k a b hu

theorem eqT_bool {P : Program} {t : TypeId} (hu : P.underlying t = some .bool) (dd : Nat) : EqT P (dd + 1) t .bool false := by
  intro m X w xs ys r us vs he hx hy
  unfold eqTy at he
  split at he
  case h_2 => cases he
  rename_i a b
  simp only [Option.some.injEq] at he
  subst he
  match us, vs, hx, hy with
  | [u], [v], hx, hy =>
    have h3 : u = .bool a := hx.1
    have h4 : v = .bool b := hy.1
    simp only [mkV, Bool.false_eq_true, if_false, List.headD_cons, h3, h4]
    exact run_bool_in hu dd a b

/-- The fields of a struct, each comparable. -/
def FieldsOk (P : Program) (dd : Nat) : List Field → Ty → Nat → Prop
  | [], _, _ => False
  | [f], ty, off => f.name ≠ "_" ∧ f.offset = off ∧ ∃ d, TDOk P f.type d ∧ d.ty = ty ∧ EqT P dd f.type d.ty d.agg
  | f :: fs, .pair a b, off => f.name ≠ "_" ∧ f.offset = off ∧ (∃ d, TDOk P f.type d ∧ d.ty = a ∧ EqT P dd f.type d.ty d.agg) ∧ FieldsOk P dd fs b (Nat.add off a.n)
  | _, _, _ => False

theorem eqTy_len : ∀ {ty : Ty} {xs ys : List Cell} {r : Bool}, eqTy ty xs ys = some r → xs.length = ty.n ∧ ys.length = ty.n := by
  intro ty
  induction ty with
  | int k =>
    intro xs ys r h
    unfold eqTy at h
    split at h
    · exact ⟨rfl, rfl⟩
    · cases h
  | bool =>
    intro xs ys r h
    unfold eqTy at h
    split at h
    · exact ⟨rfl, rfl⟩
    · cases h
  | pair a b iha ihb =>
    intro xs ys r h
    unfold eqTy at h
    split at h
    · rename_i h1 h2
      have h3 := iha h1
      have h4 := ihb h2
      simp only [List.length_take, List.length_drop] at h3 h4
      simp only [Ty.n, Nat.add_eq]
      omega
    · cases h
  | _ => intro xs ys r h; unfold eqTy at h; cases h

theorem eq_fields {P : Program} {dd : Nat} {m : Map} {X : Nat → Nat → Prop} {w : World} (us vs : Array Value) : ∀ (fs : List Field) (ty : Ty) (off : Nat) (xs ys : List Cell) (r : Bool), FieldsOk P dd fs ty off → eqTy ty xs ys = some r →
    CRs m X w xs (us.toList.drop off) → CRs m X w ys (vs.toList.drop off) → (Op.eqFields dd us vs fs).run P w = .ok r w := by
  intro fs
  induction fs with
  | nil => intro ty off xs ys r h; exact h.elim
  | cons f fs ih =>
    have step : ∀ (off : Nat) (d : TD) (xs ys : List Cell) (r : Bool), TDOk P f.type d → EqT P dd f.type d.ty d.agg → f.name ≠ "_" → f.offset = off → eqTy d.ty xs ys = some r →
        CRs m X w xs ((us.toList.drop off).take d.ty.n) → CRs m X w ys ((vs.toList.drop off).take d.ty.n) →
        (Op.eqFields dd us vs (f :: fs)).run P w = if r = true then (Op.eqFields dd us vs fs).run P w else .ok false w := by
      intro off d xs ys r hT hE hn ho he hx hy
      have hl := eqTy_len he
      have hxl := hx.length
      have hyl := hy.length
      simp only [List.length_take, List.length_drop, Array.length_toList] at hxl hyl
      by_cases hz : d.ty.n = 0
      · -- no cells: such a type has no equality
        exfalso
        have : ∀ (ty : Ty) (xs ys : List Cell) (r : Bool), eqTy ty xs ys = some r → 0 < ty.n := by
          intro ty
          induction ty with
          | int k => intro _ _ _ _; exact Nat.one_pos
          | bool => intro _ _ _ _; exact Nat.one_pos
          | pair a b iha ihb =>
            intro xs ys r h
            unfold eqTy at h
            split at h
            · rename_i h1 h2; have := iha _ _ _ h1; simp only [Ty.n, Nat.add_eq]; omega
            · cases h
          | _ => intro xs ys r h; unfold eqTy at h; cases h
        have := this _ _ _ _ he
        omega
      simp only [Op.eqFields, hn, ne_eq, not_false_eq_true, if_true, Sem.run_bind, ho]
      rw [run_part hT (by omega), Result.andThen_ok, run_part hT (by omega), Result.andThen_ok, hE m X w xs ys r _ _ he hx hy, Result.andThen_ok]
      cases r <;> simp
    intro ty off xs ys r h he hx hy
    match fs, ty, h, ih, step with
    | [], ty, h, ih, step =>
      obtain ⟨hn, ho, d, hT, rfl, hE⟩ := h
      have hl := eqTy_len he
      have hx' := All2.take d.ty.n hx
      have hy' := All2.take d.ty.n hy
      rw [List.take_of_length_le (by omega)] at hx' hy'
      rw [step off d xs ys r hT hE hn ho he hx' hy']
      cases r <;> simp [Op.eqFields]
    | f2 :: fs, .pair a b, h, ih, step =>
      obtain ⟨hn, ho, ⟨d, hT, rfl, hE⟩, hrest⟩ := h
      unfold eqTy at he
      split at he
      case h_2 => cases he
      rename_i r1 r2 h1 h2
      simp only [Option.some.injEq] at he
      subst he
      rw [step off d _ _ r1 hT hE hn ho h1 (All2.take _ hx) (All2.take _ hy)]
      cases r1 with
      | false => simp
      | true =>
        have hx' := All2.drop d.ty.n hx
        have hy' := All2.drop d.ty.n hy
        rw [List.drop_drop] at hx' hy'
        simpa using ih b (off + d.ty.n) _ _ r2 hrest h2 hx' hy'
    | f2 :: fs, .int k, h, _, _ => exact h.elim
    | f2 :: fs, .bool, h, _, _ => exact h.elim
    | f2 :: fs, .flt k, h, _, _ => exact h.elim
    | f2 :: fs, .str, h, _, _ => exact h.elim
    | f2 :: fs, .unit, h, _, _ => exact h.elim
    | f2 :: fs, .sl e, h, _, _ => exact h.elim

theorem eqT_struct {P : Program} {t : TypeId} {fds : Array Field} {ty : Ty} (hu : P.underlying t = some (.struct fds)) (hp : P.stoodInHeld t = false) {dd : Nat} (hf : FieldsOk P dd fds.toList ty 0) : EqT P (dd + 1) t ty true := by
  intro m X w xs ys r us vs he hx hy
  have hfo : P.fieldsOf t = fds := by unfold Program.fieldsOf; rw [hu]
  simp only [mkV, if_true]
  rw [run_equalIn_struct w dd t us.toArray vs.toArray (by rw [hfo]; exact hu) hp, hfo]
  exact eq_fields us.toArray vs.toArray fds.toList ty 0 xs ys r hf he (by simpa using hx) (by simpa using hy)

/-- What CtxOk asks of a struct's equality. -/
theorem eqFact {P : Program} {t : TypeId} {ty : Ty} (h : EqT P 10000 t ty true) (hg : P.eqGuardType P.depth t = false) (m : Map) (X : Nat → Nat → Prop) (w : World) (xs ys : List Cell) (r : Bool) (us vs : List Value)
    (he : eqTy ty xs ys = some r) (hx : CRs m X w xs us) (hy : CRs m X w ys vs) :
    (eqGuard .eql t (.tmp 0) (.tmp 0) (.agg us.toArray) (.agg vs.toArray) >>= fun _ => binOp .eql t (.agg us.toArray) (.agg vs.toArray)).run P w = .ok (.bool r) w ∧
    (eqGuard .neq t (.tmp 0) (.tmp 0) (.agg us.toArray) (.agg vs.toArray) >>= fun _ => binOp .neq t (.agg us.toArray) (.agg vs.toArray)).run P w = .ok (.bool (!r)) w := by
  have h1 := h m X w xs ys r us vs he hx hy
  simp only [mkV, if_true] at h1
  constructor
  · rw [Sem.run_bind, run_eqGuard_agg w _ _ _ _ _ _ hg, Result.andThen_ok, run_eql_struct, h1]; rfl
  · rw [Sem.run_bind, run_eqGuard_agg w _ _ _ _ _ _ hg, Result.andThen_ok, run_neq_struct, h1]; rfl
end Go.Proofs.Ytghlpolodjlgjaa.Sy
