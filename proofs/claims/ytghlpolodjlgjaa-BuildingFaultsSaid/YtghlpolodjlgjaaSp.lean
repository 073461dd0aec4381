/- The symbolic evaluator is sound: operands, and single operations (own work). -/
import Derived.Test.YtghlpolodjlgjaaSo
namespace Go.Proofs.Ytghlpolodjlgjaa.Sy
open Go Go.RowKit
set_option linter.unusedVariables false
set_option linter.unusedSimpArgs false

/-! ### What the tables say of the program -/
def zeroVs : Ty → List Value
  | .int k => [.int k 0] | .bool => [.bool false] | .flt k => [.float k 0] | .str => [.string ByteArray.empty] | .unit => [] | .fnt => [.nilFunc]
  | .pair a b => zeroVs a ++ zeroVs b | .sl e => [.slice none 0 0]

def mkV (agg : Bool) (vs : List Value) : Value := if agg then .agg vs.toArray else vs.headD undef

def plainOk : Ty → TypeDesc → Prop
  | .int k, d => d = .int k | .bool, d => d = .bool | .flt k, d => d = .float k | .str, d => d = .string
  | .sl e, d => ∃ el, d = .slice el | _, _ => True

structure InfoOk (P : Program) (t : TypeId) (ty : Ty) (agg : Bool) : Prop where
  info : ∃ i, P.info? t = some i ∧ i.size = ty.n ∧ i.zero = some (mkV agg (zeroVs ty))

def kindOk (P : Program) (d : TD) (e : TypeDesc) : Prop :=
  match d.kind with
  | .prim => d.agg = false
  | .struct fs => d.agg = true ∧ ∃ fds, e = .struct fds ∧ fds.toList.map (fun f => (f.type, f.offset)) = fs ∧ ∀ p ∈ fs, ∃ i, P.info? p.1 = some i
  | .array len el => d.agg = true ∧ e = .array len el
  | .slice el => d.agg = false ∧ e = .slice el ∧ ∃ t' ag, d.ty = .sl t' ∧ InfoOk P el t' ag

structure TDOk (P : Program) (t : TypeId) (d : TD) : Prop where
  info : InfoOk P t d.ty d.agg
  desc : ∃ e, P.underlying t = some e ∧ kindOk P d e ∧ (d.agg = false → plainOk d.ty e)
  isAgg : ∀ w, (isAgg t).run P w = .ok d.agg w
  one : d.agg = false → d.ty.n = 1

def ShapeR : List (Option Nat) → List Value → List Value → Prop
  | [], [], cs => cs = []
  | none :: s, v :: vs, cs => ∃ cs', cs = v :: cs' ∧ ShapeR s vs cs'
  | some n :: s, v :: vs, cs => ∃ ds cs' : List Value, v = .agg ds.toArray ∧ ds.length = n ∧ cs = ds ++ cs' ∧ ShapeR s vs cs'
  | _, _, _ => False

def RetR (w : World) (X : Nat → Nat → Prop) (rsh : Rsh) (r : Ty) (y : r.den) (v : Value) : Prop :=
  ∃ cs, TR w X r y cs ∧ match rsh with
    | .none => v = .tuple #[]
    | .one s => ShapeR [s] [v] cs
    | .tup ss => ∃ vs : List Value, v = .tuple vs.toArray ∧ ShapeR ss vs cs

/-- A slice among the cells of a typed value lies in a new block of its own. -/
def FreshV (n0 : Nat) (T : TypeId) (w : World) : Cell → Value → Prop
  | .lst e _ _, v => v = .slice none 0 0 ∨ (∃ b n cap us, v = .slice (some ⟨b, 0, none⟩) n cap ∧ n0 ≤ b ∧ RowBlk w b us (unB T) ∧ us.size = cap * e.n ∧ cap ≤ maxLen) ∨
      (Nat.ble big T = true ∧ ∃ b n cap T', v = .slice (some ⟨b, 0, none⟩) n cap ∧ w.shape? b = some (T', n * e.n) ∧ n * e.n = cap * e.n)
  | _, _ => True

def RetF (n0 : Nat) (fr : Option Nat) (w : World) (X : Nat → Nat → Prop) (rsh : Rsh) (r : Ty) (y : r.den) (v : Value) : Prop :=
  ∃ cs, TR w X r y cs ∧ (∀ T, fr = some T → All2 (FreshV n0 T w) (enc r y) cs) ∧ match rsh with
    | .none => v = .tuple #[]
    | .one s => ShapeR [s] [v] cs
    | .tup ss => ∃ vs : List Value, v = .tuple vs.toArray ∧ ShapeR ss vs cs

/-- A function does what its contract says: whatever cells are excluded, the result's cells aren't. -/
def CtOk (P : Program) (G : Gd) (f : FuncId) (ct : Ct) : Prop :=
  ∀ (x : ct.p.den) (w : World) (X : Nat → Nat → Prop) (args : Array Value) (cs : List Value), G.H w → (∀ b p, X b p → b < w.heap.size ∧ ¬ G.gl b) → (∀ q, ct.pre = some q → q x) → ShapeR ct.psh args.toList cs → TR w X ct.p x cs →
    Calls P f args w fun e w' => ∃ v, e = .returned v ∧ Below w.heap.size w w' ∧ RetF w.heap.size ct.fresh w' X ct.rsh ct.r (ct.F x) v

/-- Pointers, and what the boxes hold: X: their cells are excluded. -/
def PtrVals (w : World) (X : Nat → Nat → Prop) : List Nat → List Nat → List Value → List Value → Prop
  | [], [], [], pc => pc = []
  | b :: bs, n :: sz, v :: vs, pc => v = .pointer (some ⟨b, 0, none⟩) ∧ (∀ q, X b q) ∧ ∃ (us : Array Value) (T : TypeId) (pc' : List Value), w.heap[b]? = some (.cells us T (0, 0)) ∧ us.size = n ∧ pc = us.toList ++ pc' ∧ PtrVals w X bs sz vs pc'
  | _, _, _, _ => False

structure BelowBut (bs : List Nat) (w w' : World) : Prop where
  os : w'.os = w.os
  tape : w'.tape = w.tape
  output : w'.output = w.output
  size : w.heap.size ≤ w'.heap.size
  block : ∀ k, k < w.heap.size → k ∉ bs → w'.heap[k]? = w.heap[k]?
  shape : ∀ k, k < w.heap.size → w'.shape? k = w.shape? k
  frozen : ∀ k p, k < w.heap.size → w'.frozen? ⟨k, p, none⟩ = w.frozen? ⟨k, p, none⟩

/-- A function that is given pointers does what its contract says. -/
def CpOk (P : Program) (G : Gd) (f : FuncId) (cp : Cp) : Prop :=
  ∀ (x : cp.p.den) (w : World) (X : Nat → Nat → Prop) (args : Array Value) (cv pc : List Value) (bs : List Nat), G.H w → (∀ b p, X b p → b < w.heap.size ∧ ¬ G.gl b) → (∀ q, cp.pre = some q → q x) →
    args.size = cp.mask.length → bs.Nodup → ShapeR cp.psh (valsOf cp.mask args.toList) cv → PtrVals w X bs cp.sz (ptrsIn cp.mask args.toList) pc →
    CRs (fun _ => none) X w (exC cp.ex (enc cp.p x)) (cv ++ pc) →
    Calls P f args w fun e w' => ∃ v, e = .returned v ∧ BelowBut (if cp.ro then [] else bs) w w' ∧ RetF w.heap.size none w' X cp.rsh cp.r (cp.F x).1 v ∧
      ∃ pc', PtrVals w' X bs cp.sz (ptrsIn cp.mask args.toList) pc' ∧ TR w' X cp.q (cp.F x).2 pc'

/-- The contract without a word on where the result lies. -/
theorem CtOk.weak {P : Program} {G : Gd} {f : FuncId} {ct : Ct} (h : CtOk P G f ct) : CtOk P G f { ct with fresh := none } := by
  intro x w X args cs h1 h2 h3 h4 h5
  refine (h x w X args cs h1 h2 h3 h4 h5).mono fun e w' ⟨v, he, hb, cs', h6, h7, h8⟩ => ⟨v, he, hb, cs', h6, (fun T hT => by cases hT), h8⟩

/-- A function without a body reckons what it is said to. -/
def XtOk (P : Program) (f : FuncId) : Xt → Prop
  | .f64bits => ∀ (b : Nat) (w : World), (callFunc f #[.float .f64 b]).run P w = .ok (.value (.int .u64 b)) w
  | .f64from => ∀ (n : Int) (w : World), (callFunc f #[.int .u64 n]).run P w = .ok (.value (.float .f64 n.toNat)) w

structure CtxOk (P : Program) (C : Ctx) : Prop where
  xt : ∀ f x, C.xt f = some x → XtOk P f x
  mixed : P.follows .mixedOrders = true
  D : ∀ t d, C.D t = some d → TDOk P t d
  Γ : ∀ f ct, C.Γ f = some ct → CtOk P C.G f ct ∧ ∃ fn, P.funcs[f]? = some fn ∧ (fn.name == "runtime.NumGoroutine") = false ∧ fn.body.isNone = false
  pg : ∀ f cp, C.pg f = some cp → CpOk P C.G f cp ∧ ∃ fn, P.funcs[f]? = some fn ∧ (fn.name == "runtime.NumGoroutine") = false ∧ fn.body.isNone = false
  fv : ∀ cv, C.fv = some cv → ∀ g ∈ cv.fs, CtOk P C.G g { p := cv.p, psh := cv.psh, r := cv.r, rsh := cv.rsh, pre := none, fresh := none, F := cv.F g } ∧ ∃ fn, P.funcs[g]? = some fn ∧ (fn.name == "runtime.NumGoroutine") = false ∧ fn.body.isNone = false
  bytes : ∀ t d i, C.D t = some d → P.info? t = some i → 0 < d.ty.n → i.bytes = d.bytes
  gv : ∀ g e l, C.gv g = some ⟨e, l⟩ → ∃ b, C.G.gl b ∧ ∀ (a : Act) (w : World) (X : Nat → Nat → Prop), C.G.H w → (∀ b p, X b p → ¬ C.G.gl b) → a.eval (.global g) = .pointer (some ⟨b, 0, none⟩) ∧ RowsOk w X e.n (TR w X e) l b 0
  eq : ∀ t d, C.D t = some d → d.eq = true → ∀ (m : Map) (X : Nat → Nat → Prop) (w : World) (xs ys : List Cell) (r : Bool) (us vs : List Value), eqTy d.ty xs ys = some r → CRs m X w xs us → CRs m X w ys vs →
    xs.length = d.ty.n → ys.length = d.ty.n →
    (eqGuard .eql t (.tmp 0) (.tmp 0) (.agg us.toArray) (.agg vs.toArray) >>= fun _ => binOp .eql t (.agg us.toArray) (.agg vs.toArray)).run P w = .ok (.bool r) w ∧
    (eqGuard .neq t (.tmp 0) (.tmp 0) (.agg us.toArray) (.agg vs.toArray) >>= fun _ => binOp .neq t (.agg us.toArray) (.agg vs.toArray)).run P w = .ok (.bool (!r)) w

section
variable {φ : Fr} {ν : Nat → Bool} {m : Map} {st : ASt} {a : Act} {w w' : World} {own : List (Nat × Bool)} {P : Program} {C : Ctx}

/-! ### Operands -/
theorem constCells_ok {X : Nat → Nat → Prop} : ∀ {t : Ty} {vs : List Value} {cs : List Cell}, constCells t vs = some cs → CRs m X w cs vs := by
  intro t
  induction t with
  | int k =>
    intro vs cs h
    unfold constCells at h
    split at h
    · obtain ⟨h1, h2⟩ := cnd_some h
      simp only [Option.some.injEq] at h2; subst h2
      rw [keq_eq h1]; exact ⟨rfl, trivial⟩
    · cases h
  | flt k =>
    intro vs cs h
    unfold constCells at h
    split at h
    · obtain ⟨h1, h2⟩ := cnd_some h
      simp only [Option.some.injEq] at h2; subst h2
      rw [feq_eq h1]; exact ⟨rfl, trivial⟩
    · cases h
  | sl e ih =>
    intro vs cs h
    unfold constCells at h
    split at h
    · simp only [Option.some.injEq] at h; subst h
      exact ⟨⟨.inl ⟨rfl, rfl⟩, .inl ⟨rfl, rfl⟩⟩, trivial⟩
    · cases h
  | unit =>
    intro vs cs h
    unfold constCells at h
    split at h
    · simp only [Option.some.injEq] at h; subst h; trivial
    · cases h
  | pair x y ihx ihy =>
    intro vs cs h
    unfold constCells at h
    split at h
    · rename_i hx hy
      simp only [Option.some.injEq] at h
      subst h
      rw [app_eq]
      have := All2.append (ihx hx) (ihy hy)
      simpa [CRs] using this
    · cases h
  | fnt => intro vs cs h; cases h
  | _ =>
    intro vs cs h
    unfold constCells at h
    split at h
    · simp only [Option.some.injEq] at h; subst h
      exact ⟨rfl, trivial⟩
    · cases h

theorem constTV_ok {X : Nat → Nat → Prop} {ty : Option Ty} {v : Value} {s : SV} (h : constTV ty v = some s) : SR m X w s v := by
  unfold constTV at h
  split at h
  · simp only [Option.some.injEq] at h; subst h; exact rfl
  · simp only [Option.some.injEq] at h; subst h; exact rfl
  · simp only [Option.some.injEq] at h; subst h; exact rfl
  · simp only [Option.some.injEq] at h; subst h; exact rfl
  · simp only [Option.some.injEq] at h; subst h; exact rfl
  · split at h
    · simp only [Option.some.injEq] at h; subst h; exact ⟨.inl ⟨rfl, rfl⟩, .inl ⟨rfl, rfl⟩⟩
    · cases h
  · split at h
    · rw [Option.map_eq_some_iff] at h
      obtain ⟨cs, h1, rfl⟩ := h
      exact ⟨_, rfl, constCells_ok h1⟩
    · cases h
  · cases h

theorem opnd_ok (hs : SatM φ ν m st a w) (hν : holdsTags ν own) {ty : Option Ty} {x : Operand} {tv : TV} (h : opnd st own ty x = some tv) : VR m (XA φ m) w tv (a.eval x) := by
  cases x with
  | tmp t =>
    simp only [opnd] at h
    split at h
    · rename_i g hg
      obtain ⟨h1, h2⟩ := cnd_some h
      simp only [Option.some.injEq] at h2
      subst h2
      exact hs.slot t g hg (sub_spec h1 hν)
    · cases h
  | const v =>
    simp only [opnd, Option.map_eq_some_iff] at h
    obtain ⟨s, h1, rfl⟩ := h
    exact constTV_ok h1
  | func f => simp only [opnd, Option.some.injEq] at h; subst h; exact rfl
  | global g => cases h

theorem opnd1_ok (hs : SatM φ ν m st a w) (hν : holdsTags ν own) {ty : Option Ty} {x : Operand} {s : SV} (h : opnd1 st own ty x = some s) : SR m (XA φ m) w s (a.eval x) := by
  unfold opnd1 at h
  split at h
  · rename_i s' hs'
    simp only [Option.some.injEq] at h
    subst h
    exact opnd_ok hs hν hs'
  · cases h

theorem opndc_ok (hs : SatM φ ν m st a w) (hν : holdsTags ν own) {ty : Option Ty} {x : Operand} {c : Cell} (h : opndc st own ty x = some c) : CR m (XA φ m) w c (a.eval x) := by
  unfold opndc at h
  split at h
  · rename_i s' hs'
    simp only [Option.some.injEq] at h
    subst h
    exact opnd_ok hs hν hs'
  · cases h

/-! ### Cells and typed values -/
theorem enc_ok {X : Nat → Nat → Prop} : ∀ {t : Ty} {x : t.den} {vs : List Value}, TR w X t x vs → CRs m X w (enc t x) vs := by
  intro t
  induction t with
  | pair a b iha ihb =>
    intro x vs h
    obtain ⟨v1, v2, rfl, h1, h2⟩ := h
    simp only [enc, app_eq]
    exact All2.append (iha h1) (ihb h2)
  | sl e ih => intro l vs h; obtain ⟨v, rfl, h1⟩ := h; exact ⟨⟨h1, trivial⟩, trivial⟩
  | unit => intro x vs h; cases h; trivial
  | _ => intro x vs h; cases h; exact ⟨rfl, trivial⟩

theorem enc_len : ∀ (t : Ty) (x : t.den), (enc t x).length = t.n := by
  intro t
  induction t with
  | pair a b iha ihb => intro x; simp [enc, app_eq, Ty.n, iha, ihb]
  | _ => intro x; simp [enc, Ty.n]

theorem castL_ok {a b : Ty} {l : List a.den} {l' : List b.den} (h : castL a b l = some l') : ∃ e : a = b, l' = e ▸ l := by
  unfold castL at h
  split at h
  · simp only [Option.some.injEq] at h; exact ⟨_, h.symm⟩
  · cases h

theorem dec_ok {X : Nat → Nat → Prop} : ∀ {t : Ty} {cs : List Cell} {x : t.den} {vs : List Value}, dec t cs = some x → CRs m X w cs vs → TR w X t x vs := by
  intro t
  induction t with
  | int k =>
    intro cs x vs h hc
    unfold dec at h
    split at h
    · obtain ⟨h1, h2⟩ := cnd_some h
      simp only [Option.some.injEq] at h2
      subst h2
      match vs, hc with | [v], hc => obtain ⟨hc1, _⟩ := hc; rw [← keq_eq h1] at hc1; exact congrArg (· :: []) hc1
    · cases h
  | flt k =>
    intro cs x vs h hc
    unfold dec at h
    split at h
    · obtain ⟨h1, h2⟩ := cnd_some h
      simp only [Option.some.injEq] at h2
      subst h2
      match vs, hc with | [v], hc => obtain ⟨hc1, _⟩ := hc; rw [← feq_eq h1] at hc1; exact congrArg (· :: []) hc1
    · cases h
  | unit =>
    intro cs x vs h hc
    unfold dec at h
    split at h
    · match vs, hc with | [], _ => rfl
    · cases h
  | sl e ih =>
    intro cs x vs h hc
    unfold dec at h
    split at h
    · obtain ⟨e0, h2⟩ := castL_ok h
      subst e0
      subst h2
      match vs, hc with | [v], hc => exact ⟨v, rfl, hc.1.1⟩
    · cases h
  | pair x y ihx ihy =>
    intro cs z vs h hc
    unfold dec at h
    split at h
    · rename_i hx hy
      simp only [Option.some.injEq] at h
      subst h
      exact ⟨vs.take _, vs.drop _, (List.take_append_drop _ _).symm, ihx hx (All2.take _ hc), ihy hy (All2.drop _ hc)⟩
    · cases h
  | _ =>
    intro cs x vs h hc
    unfold dec at h
    split at h
    · simp only [Option.some.injEq] at h
      subst h
      match vs, hc with | [v], hc => exact congrArg (· :: []) hc.1
    · cases h

end
end Go.Proofs.Ytghlpolodjlgjaa.Sy
